/- What the code of the functions comes to, without slots: an equation for each part; no condition. -/
import Derived.Test.YtcgeldjhobmijaaGreatDoorPayBb0
import Derived.Test.YtcgeldjhobmijaaGreatDoorPayCode0_0
set_option maxRecDepth 20000
set_option maxHeartbeats 400000
set_option linter.unusedVariables false
namespace Pay
open Go
variable {R_c0 R_c1 R_c2 R_c3 R_c4 R_c5 R_c6 R_c7 R_c8 R_c9 R_c10 R_c11 R_c12 R_c13 R_c14 R_l0 R_l1 : ACode} {R_i1 R_i2 R_i3 R_i4 R_i5 R_i6 R_i7 R_i8 R_i9 R_i10 R_i11 R_i12 R_i13 R_i14 R_i15 R_i16 R_i17 R_i25 R_i26 R_i27 R_i28 R_i29 R_i30 R_i31 : List Nat} {R_o0 R_o1 R_o2 R_o3 R_o4 R_o5 R_o6 R_o7 R_o8 R_o9 R_o10 R_o11 R_o12 R_o13 R_o22 R_o23 : List AOper} {R_t4 R_t5 R_t6 R_t7 R_t8 R_t9 R_t10 R_t11 R_t12 R_t13 R_t14 R_t15 R_t16 R_t17 R_t18 R_t19 R_t20 R_t21 R_t32 R_t33 R_t34 R_t35 R_t36 R_t37 R_t38 R_t39 R_t40 R_t41 R_t42 R_t43 R_t44 R_t45 R_t46 : Tr} {C : Ctx} {I : Nat → Prop} {s : Nat → V} {o : Nat → Option Ob} {K : St → Prop} {Q : Ex → St → Prop}
theorem g_law08_TreeExact_i17_sh : drawB C I g_law08_TreeExact.a0 (17 :: []) .done (St.mk s o) K =
 ((s 2) = V.undef ∧ (quietV o ((s 41) :: [(s 41)]) ∧
treeB C I g_law08_TreeExact.a0 .done (St.mk (upd s 2 (s 41)) o) K)) := rfl
@[instance] theorem g_law08_TreeExact_i17_u : UnfAt (drawB C I g_law08_TreeExact.a0 g_law08_TreeExact.i17 .done (St.mk s o) K) g_law08_TreeExact_i17_sh := Unf.of _
theorem g_law08_TreeExact_i16_sh : drawB C I g_law08_TreeExact.a0 (16 :: R_i17) .done (St.mk s o) K =
 ((s 41) = V.undef ∧ (demand (pickV (s 39) (s 40) (V.d (.bool false))) (fun x1 => quietV o (x1 :: [(s 39), (s 40), (V.d (.bool false))]) ∧
drawB C I g_law08_TreeExact.a0 R_i17 .done (St.mk (upd s 41 x1) o) K))) := rfl
@[instance] theorem g_law08_TreeExact_i16_u : UnfAt (drawB C I g_law08_TreeExact.a0 g_law08_TreeExact.i16 .done (St.mk s o) K) g_law08_TreeExact_i16_sh := Unf.of _
theorem g_law08_TreeExact_i15_sh : drawB C I g_law08_TreeExact.a0 (15 :: R_i16) .done (St.mk s o) K =
 ((s 40) = V.undef ∧ guardK (s 39) true
 (∃ x1, SoundAt C 143 ⟨[], fun _ => none⟩ ⟨x1, fun _ => none⟩ ∧ (∀ n, V.refs n x1 = false) ∧ quietV o (x1 :: []) ∧
drawB C I g_law08_TreeExact.a0 R_i16 .done (St.mk (upd s 40 x1) o) K)
 (quietV o ((V.tup []) :: []) ∧
drawB C I g_law08_TreeExact.a0 R_i16 .done (St.mk (upd s 40 (V.tup [])) o) K)
 (quietV o ((V.tup []) :: []) ∧
drawB C I g_law08_TreeExact.a0 R_i16 .done (St.mk (upd s 40 (V.tup [])) o) K)) := rfl
@[instance] theorem g_law08_TreeExact_i15_u : UnfAt (drawB C I g_law08_TreeExact.a0 g_law08_TreeExact.i15 .done (St.mk s o) K) g_law08_TreeExact_i15_sh := Unf.of _
theorem g_law08_TreeExact_i14_sh : drawB C I g_law08_TreeExact.a0 (14 :: R_i15) .done (St.mk s o) K =
 ((s 39) = V.undef ∧ (quietV o ((s 38) :: [(s 38)]) ∧
drawB C I g_law08_TreeExact.a0 R_i15 .done (St.mk (upd s 39 (s 38)) o) K)) := rfl
@[instance] theorem g_law08_TreeExact_i14_u : UnfAt (drawB C I g_law08_TreeExact.a0 g_law08_TreeExact.i14 .done (St.mk s o) K) g_law08_TreeExact_i14_sh := Unf.of _
theorem g_law08_TreeExact_i13_sh : drawB C I g_law08_TreeExact.a0 (13 :: R_i14) .done (St.mk s o) K =
 ((s 38) = V.undef ∧ (demand (pickV (s 34) (s 37) (V.d (.bool false))) (fun x1 => quietV o (x1 :: [(s 34), (s 37), (V.d (.bool false))]) ∧
drawB C I g_law08_TreeExact.a0 R_i14 .done (St.mk (upd s 38 x1) o) K))) := rfl
@[instance] theorem g_law08_TreeExact_i13_u : UnfAt (drawB C I g_law08_TreeExact.a0 g_law08_TreeExact.i13 .done (St.mk s o) K) g_law08_TreeExact_i13_sh := Unf.of _
theorem g_law08_TreeExact_i12_sh : drawB C I g_law08_TreeExact.a0 (12 :: R_i13) .done (St.mk s o) K =
 ((s 37) = V.undef ∧ guardK (s 34) true
 (demand (binV BinOp.eql (s 35) (s 36)) (fun x1 => quietV o (x1 :: [(s 35), (s 36)]) ∧
drawB C I g_law08_TreeExact.a0 R_i13 .done (St.mk (upd s 37 x1) o) K))
 (quietV o ((V.tup []) :: [(s 35), (s 36)]) ∧
drawB C I g_law08_TreeExact.a0 R_i13 .done (St.mk (upd s 37 (V.tup [])) o) K)
 (quietV o ((V.tup []) :: [(s 35), (s 36)]) ∧
drawB C I g_law08_TreeExact.a0 R_i13 .done (St.mk (upd s 37 (V.tup [])) o) K)) := rfl
@[instance] theorem g_law08_TreeExact_i12_u : UnfAt (drawB C I g_law08_TreeExact.a0 g_law08_TreeExact.i12 .done (St.mk s o) K) g_law08_TreeExact_i12_sh := Unf.of _
theorem g_law08_TreeExact_i11_sh : drawB C I g_law08_TreeExact.a0 (11 :: R_i12) .done (St.mk s o) K =
 ((s 36) = V.undef ∧ guardK (s 34) true
 (quietV o ((s 8) :: [(s 8)]) ∧
drawB C I g_law08_TreeExact.a0 R_i12 .done (St.mk (upd s 36 (s 8)) o) K)
 (quietV o ((V.tup []) :: [(s 8)]) ∧
drawB C I g_law08_TreeExact.a0 R_i12 .done (St.mk (upd s 36 (V.tup [])) o) K)
 (quietV o ((V.tup []) :: [(s 8)]) ∧
drawB C I g_law08_TreeExact.a0 R_i12 .done (St.mk (upd s 36 (V.tup [])) o) K)) := rfl
@[instance] theorem g_law08_TreeExact_i11_u : UnfAt (drawB C I g_law08_TreeExact.a0 g_law08_TreeExact.i11 .done (St.mk s o) K) g_law08_TreeExact_i11_sh := Unf.of _
theorem g_law08_TreeExact_i10_sh : drawB C I g_law08_TreeExact.a0 (10 :: R_i11) .done (St.mk s o) K =
 ((s 35) = V.undef ∧ guardK (s 34) true
 (quietV o ((s 5) :: [(s 5)]) ∧
drawB C I g_law08_TreeExact.a0 R_i11 .done (St.mk (upd s 35 (s 5)) o) K)
 (quietV o ((V.tup []) :: [(s 5)]) ∧
drawB C I g_law08_TreeExact.a0 R_i11 .done (St.mk (upd s 35 (V.tup [])) o) K)
 (quietV o ((V.tup []) :: [(s 5)]) ∧
drawB C I g_law08_TreeExact.a0 R_i11 .done (St.mk (upd s 35 (V.tup [])) o) K)) := rfl
@[instance] theorem g_law08_TreeExact_i10_u : UnfAt (drawB C I g_law08_TreeExact.a0 g_law08_TreeExact.i10 .done (St.mk s o) K) g_law08_TreeExact_i10_sh := Unf.of _
theorem g_law08_TreeExact_i9_sh : drawB C I g_law08_TreeExact.a0 (9 :: R_i10) .done (St.mk s o) K =
 ((s 34) = V.undef ∧ (quietV o ((s 33) :: [(s 33)]) ∧
drawB C I g_law08_TreeExact.a0 R_i10 .done (St.mk (upd s 34 (s 33)) o) K)) := rfl
@[instance] theorem g_law08_TreeExact_i9_u : UnfAt (drawB C I g_law08_TreeExact.a0 g_law08_TreeExact.i9 .done (St.mk s o) K) g_law08_TreeExact_i9_sh := Unf.of _
theorem g_law08_TreeExact_i8_sh : drawB C I g_law08_TreeExact.a0 (8 :: R_i9) .done (St.mk s o) K =
 ((s 33) = V.undef ∧ (demand (pickV (s 29) (s 32) (V.d (.bool false))) (fun x1 => quietV o (x1 :: [(s 29), (s 32), (V.d (.bool false))]) ∧
drawB C I g_law08_TreeExact.a0 R_i9 .done (St.mk (upd s 33 x1) o) K))) := rfl
@[instance] theorem g_law08_TreeExact_i8_u : UnfAt (drawB C I g_law08_TreeExact.a0 g_law08_TreeExact.i8 .done (St.mk s o) K) g_law08_TreeExact_i8_sh := Unf.of _
theorem g_law08_TreeExact_i7_sh : drawB C I g_law08_TreeExact.a0 (7 :: R_i8) .done (St.mk s o) K =
 ((s 32) = V.undef ∧ guardK (s 29) true
 (demand (binV BinOp.eql (s 30) (s 31)) (fun x1 => quietV o (x1 :: [(s 30), (s 31)]) ∧
drawB C I g_law08_TreeExact.a0 R_i8 .done (St.mk (upd s 32 x1) o) K))
 (quietV o ((V.tup []) :: [(s 30), (s 31)]) ∧
drawB C I g_law08_TreeExact.a0 R_i8 .done (St.mk (upd s 32 (V.tup [])) o) K)
 (quietV o ((V.tup []) :: [(s 30), (s 31)]) ∧
drawB C I g_law08_TreeExact.a0 R_i8 .done (St.mk (upd s 32 (V.tup [])) o) K)) := rfl
@[instance] theorem g_law08_TreeExact_i7_u : UnfAt (drawB C I g_law08_TreeExact.a0 g_law08_TreeExact.i7 .done (St.mk s o) K) g_law08_TreeExact_i7_sh := Unf.of _
theorem g_law08_TreeExact_i6_sh : drawB C I g_law08_TreeExact.a0 (6 :: R_i7) .done (St.mk s o) K =
 ((s 31) = V.undef ∧ guardK (s 29) true
 (quietV o ((s 7) :: [(s 7)]) ∧
drawB C I g_law08_TreeExact.a0 R_i7 .done (St.mk (upd s 31 (s 7)) o) K)
 (quietV o ((V.tup []) :: [(s 7)]) ∧
drawB C I g_law08_TreeExact.a0 R_i7 .done (St.mk (upd s 31 (V.tup [])) o) K)
 (quietV o ((V.tup []) :: [(s 7)]) ∧
drawB C I g_law08_TreeExact.a0 R_i7 .done (St.mk (upd s 31 (V.tup [])) o) K)) := rfl
@[instance] theorem g_law08_TreeExact_i6_u : UnfAt (drawB C I g_law08_TreeExact.a0 g_law08_TreeExact.i6 .done (St.mk s o) K) g_law08_TreeExact_i6_sh := Unf.of _
theorem g_law08_TreeExact_i5_sh : drawB C I g_law08_TreeExact.a0 (5 :: R_i6) .done (St.mk s o) K =
 ((s 30) = V.undef ∧ guardK (s 29) true
 (quietV o ((s 4) :: [(s 4)]) ∧
drawB C I g_law08_TreeExact.a0 R_i6 .done (St.mk (upd s 30 (s 4)) o) K)
 (quietV o ((V.tup []) :: [(s 4)]) ∧
drawB C I g_law08_TreeExact.a0 R_i6 .done (St.mk (upd s 30 (V.tup [])) o) K)
 (quietV o ((V.tup []) :: [(s 4)]) ∧
drawB C I g_law08_TreeExact.a0 R_i6 .done (St.mk (upd s 30 (V.tup [])) o) K)) := rfl
@[instance] theorem g_law08_TreeExact_i5_u : UnfAt (drawB C I g_law08_TreeExact.a0 g_law08_TreeExact.i5 .done (St.mk s o) K) g_law08_TreeExact_i5_sh := Unf.of _
theorem g_law08_TreeExact_i4_sh : drawB C I g_law08_TreeExact.a0 (4 :: R_i5) .done (St.mk s o) K =
 ((s 29) = V.undef ∧ (quietV o ((s 28) :: [(s 28)]) ∧
drawB C I g_law08_TreeExact.a0 R_i5 .done (St.mk (upd s 29 (s 28)) o) K)) := rfl
@[instance] theorem g_law08_TreeExact_i4_u : UnfAt (drawB C I g_law08_TreeExact.a0 g_law08_TreeExact.i4 .done (St.mk s o) K) g_law08_TreeExact_i4_sh := Unf.of _
theorem g_law08_TreeExact_i3_sh : drawB C I g_law08_TreeExact.a0 (3 :: R_i4) .done (St.mk s o) K =
 ((s 28) = V.undef ∧ (∃ x1, SoundAt C 147 ⟨[(s 26), (s 27)], fun _ => none⟩ ⟨x1, fun _ => none⟩ ∧ (∀ n, V.refs n x1 = false) ∧ quietV o (x1 :: [(s 26), (s 27)]) ∧
drawB C I g_law08_TreeExact.a0 R_i4 .done (St.mk (upd s 28 x1) o) K)) := rfl
@[instance] theorem g_law08_TreeExact_i3_u : UnfAt (drawB C I g_law08_TreeExact.a0 g_law08_TreeExact.i3 .done (St.mk s o) K) g_law08_TreeExact_i3_sh := Unf.of _
theorem g_law08_TreeExact_i2_sh : drawB C I g_law08_TreeExact.a0 (2 :: R_i3) .done (St.mk s o) K =
 ((s 27) = V.undef ∧ (demand (loadV o (some 2) (s 6)) (fun x1 => quietV o (x1 :: [(s 6)]) ∧
drawB C I g_law08_TreeExact.a0 R_i3 .done (St.mk (upd s 27 x1) o) K))) := rfl
@[instance] theorem g_law08_TreeExact_i2_u : UnfAt (drawB C I g_law08_TreeExact.a0 g_law08_TreeExact.i2 .done (St.mk s o) K) g_law08_TreeExact_i2_sh := Unf.of _
theorem g_law08_TreeExact_i1_sh : drawB C I g_law08_TreeExact.a0 (1 :: R_i2) .done (St.mk s o) K =
 ((s 26) = V.undef ∧ (∃ x1, SoundAt C 146 ⟨[(s 25)], fun _ => none⟩ ⟨x1, fun _ => none⟩ ∧ (∀ n, V.refs n x1 = false) ∧ quietV o (x1 :: [(s 25)]) ∧
drawB C I g_law08_TreeExact.a0 R_i2 .done (St.mk (upd s 26 x1) o) K)) := rfl
@[instance] theorem g_law08_TreeExact_i1_u : UnfAt (drawB C I g_law08_TreeExact.a0 g_law08_TreeExact.i1 .done (St.mk s o) K) g_law08_TreeExact_i1_sh := Unf.of _
theorem g_law08_TreeExact_c0_sh : wpB C I (g_law08_TreeExact.c0) (St.mk s o) Q =
 (Q .ret (St.mk s o)) := rfl
@[instance] theorem g_law08_TreeExact_c0_u : UnfAt (wpB C I g_law08_TreeExact.c0 (St.mk s o) Q) g_law08_TreeExact_c0_sh := Unf.of _
theorem g_law08_TreeExact_c1_sh : wpB C I (g_law08_TreeExact.c1F R_i1 R_c0) (St.mk s o) Q =
 ((s 25) = V.undef ∧ (demand (loadV o (some 2) (s 3)) (fun x1 => quietV o (x1 :: [(s 3)]) ∧
drawB C I g_law08_TreeExact.a0 R_i1 .done (St.mk (upd s 25 x1) o) (fun st => (seqK (fun st => wpB C I R_c0 st Q) Q) .normal (St.trim st [2] (some [])))))) := rfl
@[instance] theorem g_law08_TreeExact_c1_u : UnfAt (wpB C I g_law08_TreeExact.c1 (St.mk s o) Q) g_law08_TreeExact_c1_sh := Unf.of _
theorem g_law08_TreeExact_c2_sh : wpB C I (g_law08_TreeExact.c2F R_c1) (St.mk s o) Q =
 (callK C I (St.mk (upd s 20 (s 0)) o) (some 21) 173 [(s 0)] (fun r1 or1 =>
demand (extV r1 0) (fun x2 =>
demand (extV r1 1) (fun x3 =>
demand (extV r1 2) (fun x4 =>
(¬ I 6 ∧ Fresh (St.mk (upd (upd (upd (upd (upd (upd s 20 (s 0)) 21 r1) 19 r1) 22 x2) 23 x3) 24 x4) or1) 6 (some 6) ∧ V.refsL 6 [V.cap0, V.cap0] = false ∧
storeK (V.ptr 6 0) (cellsV x2) 2 (upd or1 6 (some (Ob.box [V.cap0, V.cap0]))) (fun m5 ob6 =>
wpB C I R_c1 (St.mk (look [(3, s 3), (4, s 4), (5, s 5), (6, (V.ptr 6 0)), (7, x3), (8, x4)]) (looko ([3, 6].map fun n => (n, (upd (upd or1 6 (some (Ob.box [V.cap0, V.cap0]))) m5 (some ob6)) n)))) Q))))))) := rfl
@[instance] theorem g_law08_TreeExact_c2_u : UnfAt (wpB C I g_law08_TreeExact.c2 (St.mk s o) Q) g_law08_TreeExact_c2_sh := Unf.of _
theorem g_law08_TreeExact_c3_sh : wpB C I (g_law08_TreeExact.c3F R_c2) (St.mk s o) Q =
 (callK C I (St.mk (upd s 14 (s 0)) o) (some 15) 144 [(s 0)] (fun r1 or1 =>
demand (extV r1 0) (fun x2 =>
demand (extV r1 1) (fun x3 =>
demand (extV r1 2) (fun x4 =>
(¬ I 3 ∧ Fresh (St.mk (upd (upd (upd (upd (upd (upd s 14 (s 0)) 15 r1) 13 r1) 16 x2) 17 x3) 18 x4) or1) 3 (some 3) ∧ V.refsL 3 [V.cap0, V.cap0] = false ∧
storeK (V.ptr 3 0) (cellsV x2) 2 (upd or1 3 (some (Ob.box [V.cap0, V.cap0]))) (fun m5 ob6 =>
wpB C I R_c2 (St.mk (look [(0, s 0), (3, (V.ptr 3 0)), (4, x3), (5, x4)]) (looko ([3].map fun n => (n, (upd (upd or1 3 (some (Ob.box [V.cap0, V.cap0]))) m5 (some ob6)) n)))) Q))))))) := rfl
@[instance] theorem g_law08_TreeExact_c3_u : UnfAt (wpB C I g_law08_TreeExact.c3 (St.mk s o) Q) g_law08_TreeExact_c3_sh := Unf.of _
theorem g_law08_TreeExact_code_sh : wpB C I (g_law08_TreeExact.codeF R_c3) (St.mk s o) Q =
 (demand (lenSV (s 0)) (fun x1 =>
demand (binV BinOp.gtr x1 (V.d (.int .i64 600))) (fun x2 =>
condK x2
 (callK C I (St.mk (look [(0, s 0), (11, x2)]) (looko ([].map fun n => (n, o n)))) (some 12) 143 [] (fun r3 or3 =>
Q .ret (St.mk (look [(2, r3)]) (looko ([].map fun n => (n, or3 n))))))
 (wpB C I R_c3 (St.mk (look [(0, s 0), (11, x2)]) (looko ([].map fun n => (n, o n)))) Q)))) := rfl
@[instance] theorem g_law08_TreeExact_code_u : UnfAt (wpB C I g_law08_TreeExact.code (St.mk s o) Q) g_law08_TreeExact_code_sh := Unf.of _
theorem g_law08_awake_o13_sh : opsB C I (g_law08_awake.o13) (St.mk s o) K =
 (demand (pickV (s 59) (s 61) (V.d (.bool false))) (fun x1 =>
K (St.mk (upd (upd s 62 x1) 0 x1) o))) := rfl
@[instance] theorem g_law08_awake_o13_u : UnfAt (opsB C I g_law08_awake.o13 (St.mk s o) K) g_law08_awake_o13_sh := Unf.of _
theorem g_law08_awake_o12_sh : opsB C I (g_law08_awake.o12F R_o13) (St.mk s o) K =
 (guardK (s 59) true
 (demand (binV BinOp.eql (s 6) (V.d (.int .i64 2))) (fun x1 =>
opsB C I R_o13 (St.mk (look [(59, (V.d (D.bool true))), (61, x1)]) (looko ([].map fun n => (n, o n)))) K))
 (opsB C I R_o13 (St.mk (look [(59, (V.d (D.bool false))), (61, (V.tup []))]) (looko ([].map fun n => (n, o n)))) K)
 (opsB C I R_o13 (St.mk (look [(59, (V.tup [])), (61, (V.tup []))]) (looko ([].map fun n => (n, o n)))) K)) := rfl
@[instance] theorem g_law08_awake_o12_u : UnfAt (opsB C I g_law08_awake.o12 (St.mk s o) K) g_law08_awake_o12_sh := Unf.of _
theorem g_law08_awake_o11_sh : opsB C I (g_law08_awake.o11F R_o12) (St.mk s o) K =
 (demand (pickV (s 55) (s 57) (V.d (.bool false))) (fun x1 =>
opsB C I R_o12 (St.mk (look [(6, s 6), (59, x1)]) (looko ([].map fun n => (n, o n)))) K)) := rfl
@[instance] theorem g_law08_awake_o11_u : UnfAt (opsB C I g_law08_awake.o11 (St.mk s o) K) g_law08_awake_o11_sh := Unf.of _
theorem g_law08_awake_o10_sh : opsB C I (g_law08_awake.o10F R_o11) (St.mk s o) K =
 (guardK (s 55) true
 (demand (binV BinOp.eql (s 5) (V.d (.int .i64 8))) (fun x1 =>
opsB C I R_o11 (St.mk (look [(6, s 6), (55, (V.d (D.bool true))), (57, x1)]) (looko ([].map fun n => (n, o n)))) K))
 (opsB C I R_o11 (St.mk (look [(6, s 6), (55, (V.d (D.bool false))), (57, (V.tup []))]) (looko ([].map fun n => (n, o n)))) K)
 (opsB C I R_o11 (St.mk (look [(6, s 6), (55, (V.tup [])), (57, (V.tup []))]) (looko ([].map fun n => (n, o n)))) K)) := rfl
@[instance] theorem g_law08_awake_o10_u : UnfAt (opsB C I g_law08_awake.o10 (St.mk s o) K) g_law08_awake_o10_sh := Unf.of _
theorem g_law08_awake_o9_sh : opsB C I (g_law08_awake.o9F R_o10) (St.mk s o) K =
 (demand (pickV (s 51) (s 53) (V.d (.bool false))) (fun x1 =>
opsB C I R_o10 (St.mk (look [(5, s 5), (6, s 6), (55, x1)]) (looko ([].map fun n => (n, o n)))) K)) := rfl
@[instance] theorem g_law08_awake_o9_u : UnfAt (opsB C I g_law08_awake.o9 (St.mk s o) K) g_law08_awake_o9_sh := Unf.of _
theorem g_law08_awake_o8_sh : opsB C I (g_law08_awake.o8F R_o9) (St.mk s o) K =
 (guardK (s 51) true
 (demand (binV BinOp.eql (s 3) (V.d (.int .i64 0))) (fun x1 =>
opsB C I R_o9 (St.mk (look [(5, s 5), (6, s 6), (51, (V.d (D.bool true))), (53, x1)]) (looko ([].map fun n => (n, o n)))) K))
 (opsB C I R_o9 (St.mk (look [(5, s 5), (6, s 6), (51, (V.d (D.bool false))), (53, (V.tup []))]) (looko ([].map fun n => (n, o n)))) K)
 (opsB C I R_o9 (St.mk (look [(5, s 5), (6, s 6), (51, (V.tup [])), (53, (V.tup []))]) (looko ([].map fun n => (n, o n)))) K)) := rfl
@[instance] theorem g_law08_awake_o8_u : UnfAt (opsB C I g_law08_awake.o8 (St.mk s o) K) g_law08_awake_o8_sh := Unf.of _
theorem g_law08_awake_o7_sh : opsB C I (g_law08_awake.o7F R_o8) (St.mk s o) K =
 (demand (pickV (s 43) (s 49) (V.d (.bool false))) (fun x1 =>
opsB C I R_o8 (St.mk (look [(3, s 3), (5, s 5), (6, s 6), (51, x1)]) (looko ([].map fun n => (n, o n)))) K)) := rfl
@[instance] theorem g_law08_awake_o7_u : UnfAt (opsB C I g_law08_awake.o7 (St.mk s o) K) g_law08_awake_o7_sh := Unf.of _
theorem g_law08_awake_o6_sh : opsB C I (g_law08_awake.o6F R_o7) (St.mk s o) K =
 (guardK (s 43) true
 (demand (faddrV 0 (s 1)) (fun x1 =>
demand (loadV o none x1) (fun x2 =>
demand (iaddrV o 3 x2 (V.d (.int .i64 0))) (fun x3 =>
demand (faddrV 2 x3) (fun x4 =>
demand (loadV o none x4) (fun x5 =>
demand (binV BinOp.eql x5 (V.d (.int .i64 4))) (fun x6 =>
opsB C I R_o7 (St.mk (look [(3, s 3), (5, s 5), (6, s 6), (43, (V.d (D.bool true))), (49, x6)]) (looko ([].map fun n => (n, o n)))) K)))))))
 (opsB C I R_o7 (St.mk (look [(3, s 3), (5, s 5), (6, s 6), (43, (V.d (D.bool false))), (49, (V.tup []))]) (looko ([].map fun n => (n, o n)))) K)
 (opsB C I R_o7 (St.mk (look [(3, s 3), (5, s 5), (6, s 6), (43, (V.tup [])), (49, (V.tup []))]) (looko ([].map fun n => (n, o n)))) K)) := rfl
@[instance] theorem g_law08_awake_o6_u : UnfAt (opsB C I g_law08_awake.o6 (St.mk s o) K) g_law08_awake_o6_sh := Unf.of _
theorem g_law08_awake_o5_sh : opsB C I (g_law08_awake.o5F R_o6) (St.mk s o) K =
 (demand (pickV (s 35) (s 41) (V.d (.bool false))) (fun x1 =>
opsB C I R_o6 (St.mk (look [(1, s 1), (3, s 3), (5, s 5), (6, s 6), (43, x1)]) (looko ([1].map fun n => (n, o n)))) K)) := rfl
@[instance] theorem g_law08_awake_o5_u : UnfAt (opsB C I g_law08_awake.o5 (St.mk s o) K) g_law08_awake_o5_sh := Unf.of _
theorem g_law08_awake_o4_sh : opsB C I (g_law08_awake.o4F R_o5) (St.mk s o) K =
 (guardK (s 35) true
 (demand (faddrV 1 (s 1)) (fun x1 =>
demand (loadV o none x1) (fun x2 =>
demand (iaddrV o 6 x2 (V.d (.int .i64 4))) (fun x3 =>
demand (faddrV 4 x3) (fun x4 =>
demand (loadV o none x4) (fun x5 =>
demand (binV BinOp.eql x5 (V.d (.int .i64 3))) (fun x6 =>
opsB C I R_o5 (St.mk (look [(1, s 1), (3, s 3), (5, s 5), (6, s 6), (35, (V.d (D.bool true))), (41, x6)]) (looko ([1].map fun n => (n, o n)))) K)))))))
 (opsB C I R_o5 (St.mk (look [(1, s 1), (3, s 3), (5, s 5), (6, s 6), (35, (V.d (D.bool false))), (41, (V.tup []))]) (looko ([1].map fun n => (n, o n)))) K)
 (opsB C I R_o5 (St.mk (look [(1, s 1), (3, s 3), (5, s 5), (6, s 6), (35, (V.tup [])), (41, (V.tup []))]) (looko ([1].map fun n => (n, o n)))) K)) := rfl
@[instance] theorem g_law08_awake_o4_u : UnfAt (opsB C I g_law08_awake.o4 (St.mk s o) K) g_law08_awake_o4_sh := Unf.of _
theorem g_law08_awake_o3_sh : opsB C I (g_law08_awake.o3F R_o4) (St.mk s o) K =
 (demand (pickV (s 27) (s 33) (V.d (.bool false))) (fun x1 =>
opsB C I R_o4 (St.mk (look [(1, s 1), (3, s 3), (5, s 5), (6, s 6), (35, x1)]) (looko ([1].map fun n => (n, o n)))) K)) := rfl
@[instance] theorem g_law08_awake_o3_u : UnfAt (opsB C I g_law08_awake.o3 (St.mk s o) K) g_law08_awake_o3_sh := Unf.of _
theorem g_law08_awake_o2_sh : opsB C I (g_law08_awake.o2F R_o3) (St.mk s o) K =
 (guardK (s 27) true
 (demand (faddrV 1 (s 1)) (fun x1 =>
demand (loadV o none x1) (fun x2 =>
demand (iaddrV o 6 x2 (V.d (.int .i64 4))) (fun x3 =>
demand (faddrV 0 x3) (fun x4 =>
demand (loadV o none x4) (fun x5 =>
demand (binV BinOp.eql x5 (V.d (.str [43]))) (fun x6 =>
opsB C I R_o3 (St.mk (look [(1, s 1), (3, s 3), (5, s 5), (6, s 6), (27, (V.d (D.bool true))), (33, x6)]) (looko ([1].map fun n => (n, o n)))) K)))))))
 (opsB C I R_o3 (St.mk (look [(1, s 1), (3, s 3), (5, s 5), (6, s 6), (27, (V.d (D.bool false))), (33, (V.tup []))]) (looko ([1].map fun n => (n, o n)))) K)
 (opsB C I R_o3 (St.mk (look [(1, s 1), (3, s 3), (5, s 5), (6, s 6), (27, (V.tup [])), (33, (V.tup []))]) (looko ([1].map fun n => (n, o n)))) K)) := rfl
@[instance] theorem g_law08_awake_o2_u : UnfAt (opsB C I g_law08_awake.o2 (St.mk s o) K) g_law08_awake_o2_sh := Unf.of _
theorem g_law08_awake_o1_sh : opsB C I (g_law08_awake.o1F R_o2) (St.mk s o) K =
 (demand (pickV (s 21) (s 25) (V.d (.bool false))) (fun x1 =>
opsB C I R_o2 (St.mk (look [(1, s 1), (3, s 3), (5, s 5), (6, s 6), (27, x1)]) (looko ([1].map fun n => (n, o n)))) K)) := rfl
@[instance] theorem g_law08_awake_o1_u : UnfAt (opsB C I g_law08_awake.o1 (St.mk s o) K) g_law08_awake_o1_sh := Unf.of _
theorem g_law08_awake_o0_sh : opsB C I (g_law08_awake.o0F R_o1) (St.mk s o) K =
 (guardK (s 21) true
 (demand (faddrV 1 (s 1)) (fun x1 =>
demand (loadV o none x1) (fun x2 =>
demand (lenV o x2) (fun x3 =>
demand (binV BinOp.eql x3 (V.d (.int .i64 5))) (fun x4 =>
opsB C I R_o1 (St.mk (look [(1, s 1), (3, s 3), (5, s 5), (6, s 6), (21, (V.d (D.bool true))), (25, x4)]) (looko ([1].map fun n => (n, o n)))) K)))))
 (opsB C I R_o1 (St.mk (look [(1, s 1), (3, s 3), (5, s 5), (6, s 6), (21, (V.d (D.bool false))), (25, (V.tup []))]) (looko ([1].map fun n => (n, o n)))) K)
 (opsB C I R_o1 (St.mk (look [(1, s 1), (3, s 3), (5, s 5), (6, s 6), (21, (V.tup [])), (25, (V.tup []))]) (looko ([1].map fun n => (n, o n)))) K)) := rfl
@[instance] theorem g_law08_awake_o0_u : UnfAt (opsB C I g_law08_awake.o0 (St.mk s o) K) g_law08_awake_o0_sh := Unf.of _
theorem g_law08_awake_c0_sh : wpB C I (g_law08_awake.c0) (St.mk s o) Q =
 (Q .ret (St.mk s o)) := rfl
@[instance] theorem g_law08_awake_c0_u : UnfAt (wpB C I g_law08_awake.c0 (St.mk s o) Q) g_law08_awake_c0_sh := Unf.of _
theorem g_law08_awake_c1_sh : wpB C I (g_law08_awake.c1F R_o0 R_c0) (St.mk s o) Q =
 (demand (faddrV 0 (s 1)) (fun x1 =>
demand (loadV o none x1) (fun x2 =>
demand (lenV o x2) (fun x3 =>
demand (binV BinOp.eql x3 (V.d (.int .i64 1))) (fun x4 =>
opsB C I R_o0 (St.mk (look [(1, s 1), (3, s 3), (5, s 5), (6, s 6), (21, x4)]) (looko ([1].map fun n => (n, o n)))) (fun st => (seqK (fun st => wpB C I R_c0 st Q) Q) .normal (St.trim st [0] (some [])))))))) := rfl
@[instance] theorem g_law08_awake_c1_u : UnfAt (wpB C I g_law08_awake.c1 (St.mk s o) Q) g_law08_awake_c1_sh := Unf.of _
theorem g_law08_awake_c2_sh : wpB C I (g_law08_awake.c2F R_c1) (St.mk s o) Q =
 (callK C I (St.mk s o) (some 13) 144 [(V.d (.str [108, 101, 116, 32, 97, 32, 61, 32, 59]))] (fun r1 or1 =>
demand (extV r1 0) (fun x2 =>
demand (extV r1 1) (fun x3 =>
demand (extV r1 2) (fun x4 =>
(¬ I 4 ∧ Fresh (St.mk (upd (upd (upd (upd (upd s 13 r1) 12 r1) 14 x2) 15 x3) 16 x4) or1) 4 (some 4) ∧ V.refsL 4 [V.cap0, V.cap0] = false ∧
storeK (V.ptr 4 0) (cellsV x2) 2 (upd or1 4 (some (Ob.box [V.cap0, V.cap0]))) (fun m5 ob6 =>
wpB C I R_c1 (St.mk (look [(1, s 1), (3, s 3), (5, x3), (6, x4)]) (looko ([1].map fun n => (n, (upd (upd or1 4 (some (Ob.box [V.cap0, V.cap0]))) m5 (some ob6)) n)))) Q))))))) := rfl
@[instance] theorem g_law08_awake_c2_u : UnfAt (wpB C I g_law08_awake.c2 (St.mk s o) Q) g_law08_awake_c2_sh := Unf.of _
theorem g_law08_awake_code_sh : wpB C I (g_law08_awake.codeF R_c2) (St.mk s o) Q =
 (callK C I (St.mk (look []) (looko ([].map fun n => (n, o n)))) (some 8) 144 [(V.d (.str [108, 101, 116, 32, 97, 32, 61, 32, 49, 32, 43, 32, 50, 32, 42, 32, 98, 59]))] (fun r1 or1 =>
demand (extV r1 0) (fun x2 =>
demand (extV r1 1) (fun x3 =>
demand (extV r1 2) (fun x4 =>
(¬ I 1 ∧ Fresh (St.mk (upd (upd (upd (upd (upd (look []) 8 r1) 7 r1) 9 x2) 10 x3) 11 x4) or1) 1 (some 1) ∧ V.refsL 1 [V.cap0, V.cap0] = false ∧
storeK (V.ptr 1 0) (cellsV x2) 2 (upd or1 1 (some (Ob.box [V.cap0, V.cap0]))) (fun m5 ob6 =>
wpB C I R_c2 (St.mk (look [(1, (V.ptr 1 0)), (3, x4)]) (looko ([1].map fun n => (n, (upd (upd or1 1 (some (Ob.box [V.cap0, V.cap0]))) m5 (some ob6)) n)))) Q))))))) := rfl
@[instance] theorem g_law08_awake_code_u : UnfAt (wpB C I g_law08_awake.code (St.mk s o) Q) g_law08_awake_code_sh := Unf.of _
theorem g_tree_Parse_o1_sh : opsB C I (g_tree_Parse.o1) (St.mk s o) K =
 (demand (pickV (s 32) (s 37) (V.d (.bool false))) (fun x1 =>
K (St.mk (upd s 38 x1) o))) := rfl
@[instance] theorem g_tree_Parse_o1_u : UnfAt (opsB C I g_tree_Parse.o1 (St.mk s o) K) g_tree_Parse_o1_sh := Unf.of _
theorem g_tree_Parse_o0_sh : opsB C I (g_tree_Parse.o0F R_o1) (St.mk s o) K =
 (guardK (s 32) true
 (demand (nilcV (s 8)) (fun x1 =>
demand (faddrV 5 x1) (fun x2 =>
demand (loadV o none x2) (fun x3 =>
demand (binV BinOp.eql x3 (V.d (.int .i64 0))) (fun x4 =>
opsB C I R_o1 (St.mk (look [(2, s 2), (5, s 5), (8, s 8), (32, (V.d (D.bool true))), (37, x4)]) o) K)))))
 (opsB C I R_o1 (St.mk (look [(2, s 2), (5, s 5), (8, s 8), (32, (V.d (D.bool false))), (37, (V.tup []))]) o) K)
 (opsB C I R_o1 (St.mk (look [(2, s 2), (5, s 5), (8, s 8), (32, (V.tup [])), (37, (V.tup []))]) o) K)) := rfl
@[instance] theorem g_tree_Parse_o0_u : UnfAt (opsB C I g_tree_Parse.o0 (St.mk s o) K) g_tree_Parse_o0_sh := Unf.of _
theorem g_tree_Parse_c0_sh : wpB C I (g_tree_Parse.c0) (St.mk s o) Q =
 (condK (s 38)
 (Q .normal (St.mk s o))
 (Q (.exit 0) (St.mk s o))) := rfl
@[instance] theorem g_tree_Parse_c0_u : UnfAt (wpB C I g_tree_Parse.c0 (St.mk s o) Q) g_tree_Parse_c0_sh := Unf.of _
theorem g_tree_Parse_c1_sh : wpB C I (g_tree_Parse.c1) (St.mk s o) Q =
 (callK C I (St.mk (upd s 39 (s 8)) o) (some 40) 153 [(s 8)] (fun r1 or1 =>
Q .normal (St.mk (look [(2, s 2), (5, s 5), (8, s 8)]) or1))) := rfl
@[instance] theorem g_tree_Parse_c1_u : UnfAt (wpB C I g_tree_Parse.c1 (St.mk s o) Q) g_tree_Parse_c1_sh := Unf.of _
theorem g_tree_Parse_l0_sh (hL : R_l0 = g_tree_Parse.l0F R_o0 R_c0 R_c1)
 (h : demand (nilcV (s 8)) (fun x1 =>
demand (faddrV 2 x1) (fun x2 =>
demand (loadV o none x2) (fun x3 =>
demand (lenV o (s 5)) (fun x4 =>
demand (binV BinOp.lss x3 x4) (fun x5 =>
opsB C I R_o0 (St.mk (look [(2, s 2), (5, s 5), (8, s 8), (32, x5)]) o) (fun st => (seqK (fun st => wpB C I R_c0 st (seqK (fun st => wpB C I R_c1 st (seqK (fun s => wpB C I R_l0 s Q) Q)) (seqK (fun s => wpB C I R_l0 s Q) Q))) (seqK (fun st => wpB C I R_c1 st (seqK (fun s => wpB C I R_l0 s Q) Q)) (seqK (fun s => wpB C I R_l0 s Q) Q))) .normal (St.trim st [2, 5, 8, 38] none)))))))) : wpB C I R_l0 (St.mk s o) Q := w_loopC hL h
theorem g_tree_Parse_c2_sh : wpB C I (g_tree_Parse.c2) (St.mk s o) Q =
 (demand (nilcV (s 8)) (fun x1 =>
demand (faddrV 3 x1) (fun x2 =>
demand (loadV o (some 2) x2) (fun x3 =>
storeK (s 2) (cellsV x3) 2 o (fun m4 ob5 =>
Q .ret (St.mk (look [(2, s 2), (3, (V.d (.int .i64 0))), (4, (V.d (.int .i64 0)))]) (upd o m4 (some ob5)))))))) := rfl
@[instance] theorem g_tree_Parse_c2_u : UnfAt (wpB C I g_tree_Parse.c2 (St.mk s o) Q) g_tree_Parse_c2_sh := Unf.of _
theorem g_tree_Parse_c3_sh : wpB C I (g_tree_Parse.c3F R_c2) (St.mk s o) Q =
 (demand (nilcV (s 8)) (fun x1 =>
demand (faddrV 5 x1) (fun x2 =>
demand (loadV o none x2) (fun x3 =>
demand (binV BinOp.neq x3 (V.d (.int .i64 0))) (fun x4 =>
condK x4
 (V.undef = V.undef ∧ (demand ((buildN [V.cap0, V.cap0] []).map V.agg) (fun x5 => quietV o (x5 :: []) ∧
V.undef = V.undef ∧ (quietV o ((s 8) :: [(s 8)]) ∧
V.undef = V.undef ∧ (demand (nilcV (s 8)) (fun x7 => quietV o (x7 :: [(s 8)]) ∧
V.undef = V.undef ∧ (demand (faddrV 6 x7) (fun x8 => quietV o (x8 :: [x7]) ∧
V.undef = V.undef ∧ (demand (loadV o none x8) (fun x9 => quietV o (x9 :: [x8]) ∧
watchV o [(s 2)] [x8] ∧
V.undef = V.undef ∧ (quietV o ((s 8) :: [(s 8)]) ∧
V.undef = V.undef ∧ (demand (nilcV (s 8)) (fun x11 => quietV o (x11 :: [(s 8)]) ∧
V.undef = V.undef ∧ (demand (faddrV 5 x11) (fun x12 => quietV o (x12 :: [x11]) ∧
V.undef = V.undef ∧ (demand (loadV o none x12) (fun x13 => quietV o (x13 :: [x12]) ∧
watchV o [(s 2)] [x12] ∧
(([] : List Nat) = [] ∧ (storeK (s 2) (cellsV x5) 2 o (fun m14 ob15 =>
(([] : List Nat) = [] ∧ ((([] : List Nat) = [] ∧ (Q .ret (St.mk (look [(2, s 2), (3, x9), (4, x13)]) (upd o m14 (some ob15)))))))))))))))))))))))))))
 (wpB C I R_c2 (St.mk (look [(2, s 2), (8, s 8), (45, x4)]) o) Q)))))) := rfl
@[instance] theorem g_tree_Parse_c3_u : UnfAt (wpB C I g_tree_Parse.c3 (St.mk s o) Q) g_tree_Parse_c3_sh := Unf.of _
theorem g_tree_Parse_c4_sh : wpB C I (g_tree_Parse.c4F R_l0 R_c3) (St.mk s o) Q =
 (wpB C I R_l0 (St.mk s o) (blockK 0 [2, 8] none (seqK (fun st => wpB C I R_c3 st Q) Q))) := rfl
@[instance] theorem g_tree_Parse_c4_u : UnfAt (wpB C I g_tree_Parse.c4 (St.mk s o) Q) g_tree_Parse_c4_sh := Unf.of _
theorem g_tree_Parse_c5_sh : wpB C I (g_tree_Parse.c5F R_c4) (St.mk s o) Q =
 (demand (lenSV (s 0)) (fun x1 =>
demand ((buildN [V.cap0, V.d (.int .i64 0), V.d (.int .i64 0), V.cap0, V.cap0, V.d (.int .i64 0), V.d (.int .i64 0)] [(0, 1, (s 5)), (1, 1, x1)]).map V.agg) (fun x2 =>
lstK (cellsV x2) (fun c3 => c3.length = 7 ∧ ¬ I 24 ∧ Fresh (St.mk (upd (upd (upd (upd s 20 (s 5)) 21 (s 0)) 22 x1) 23 x2) o) 24 (some 24) ∧ V.refsL 24 c3 = false ∧
wpB C I R_c4 (St.mk (look [(2, s 2), (5, s 5), (8, (V.ptr 24 0))]) (upd o 24 (some (Ob.box c3)))) Q)))) := rfl
@[instance] theorem g_tree_Parse_c5_u : UnfAt (wpB C I g_tree_Parse.c5 (St.mk s o) Q) g_tree_Parse_c5_sh := Unf.of _
theorem g_tree_Parse_c6_sh : wpB C I (g_tree_Parse.c6F R_c5) (St.mk s o) Q =
 (demand (binV BinOp.neq (s 7) (V.d (.int .i64 0))) (fun x1 =>
condK x1
 (demand ((buildN [V.cap0, V.cap0] []).map V.agg) (fun x2 =>
storeK (s 2) (cellsV x2) 2 o (fun m3 ob4 =>
Q .ret (St.mk (look [(2, s 2), (3, s 6), (4, s 7)]) (upd o m3 (some ob4))))))
 (wpB C I R_c5 (St.mk (look [(0, s 0), (2, s 2), (5, s 5), (6, s 6), (7, s 7), (16, x1)]) o) Q))) := rfl
@[instance] theorem g_tree_Parse_c6_u : UnfAt (wpB C I g_tree_Parse.c6 (St.mk s o) Q) g_tree_Parse_c6_sh := Unf.of _
theorem g_tree_Parse_code_sh : wpB C I (g_tree_Parse.codeF R_c6) (St.mk s o) Q =
 ((¬ I 2 ∧ Fresh (St.mk s o) 2 (some 2) ∧ V.refsL 2 [V.cap0, V.cap0] = false ∧
callK C I (St.mk (upd (look [(0, s 0), (2, (V.ptr 2 0))]) 10 (s 0)) (upd o 2 (some (Ob.box [V.cap0, V.cap0])))) (some 11) 74 [(s 0)] (fun r1 or1 =>
demand (extV r1 0) (fun x2 =>
demand (extV r1 1) (fun x3 =>
demand (extV r1 2) (fun x4 =>
wpB C I R_c6 (St.mk (look [(0, s 0), (2, (V.ptr 2 0)), (5, x2), (6, x3), (7, x4)]) or1) Q)))))) := rfl
@[instance] theorem g_tree_Parse_code_u : UnfAt (wpB C I g_tree_Parse.code (St.mk s o) Q) g_tree_Parse_code_sh := Unf.of _
theorem g_ref08_Parse_o1_sh : opsB C I (g_ref08_Parse.o1) (St.mk s o) K =
 (demand (pickV (s 30) (s 33) (V.d (.bool false))) (fun x1 =>
K (St.mk (upd s 34 x1) o))) := rfl
@[instance] theorem g_ref08_Parse_o1_u : UnfAt (opsB C I g_ref08_Parse.o1 (St.mk s o) K) g_ref08_Parse_o1_sh := Unf.of _
theorem g_ref08_Parse_o0_sh : opsB C I (g_ref08_Parse.o0F R_o1) (St.mk s o) K =
 (guardK (s 30) true
 (demand (faddrV 5 (s 7)) (fun x1 =>
demand (loadV o none x1) (fun x2 =>
demand (binV BinOp.eql x2 (V.d (.int .i64 0))) (fun x3 =>
opsB C I R_o1 (St.mk (look [(2, s 2), (5, s 5), (7, s 7), (30, (V.d (D.bool true))), (33, x3)]) (looko ([2, 7, 108].map fun n => (n, o n)))) K))))
 (opsB C I R_o1 (St.mk (look [(2, s 2), (5, s 5), (7, s 7), (30, (V.d (D.bool false))), (33, (V.tup []))]) (looko ([2, 7, 108].map fun n => (n, o n)))) K)
 (opsB C I R_o1 (St.mk (look [(2, s 2), (5, s 5), (7, s 7), (30, (V.tup [])), (33, (V.tup []))]) (looko ([2, 7, 108].map fun n => (n, o n)))) K)) := rfl
@[instance] theorem g_ref08_Parse_o0_u : UnfAt (opsB C I g_ref08_Parse.o0 (St.mk s o) K) g_ref08_Parse_o0_sh := Unf.of _
theorem g_ref08_Parse_c0_sh : wpB C I (g_ref08_Parse.c0) (St.mk s o) Q =
 (condK (s 34)
 (Q .normal (St.mk s o))
 (Q (.exit 0) (St.mk s o))) := rfl
@[instance] theorem g_ref08_Parse_c0_u : UnfAt (wpB C I g_ref08_Parse.c0 (St.mk s o) Q) g_ref08_Parse_c0_sh := Unf.of _
theorem g_ref08_Parse_o5_sh : opsB C I (g_ref08_Parse.o5) (St.mk s o) K =
 (demand (pickV (s 71) (V.d (.bool true)) (s 78)) (fun x1 =>
K (St.mk (upd s 79 x1) o))) := rfl
@[instance] theorem g_ref08_Parse_o5_u : UnfAt (opsB C I g_ref08_Parse.o5 (St.mk s o) K) g_ref08_Parse_o5_sh := Unf.of _
theorem g_ref08_Parse_o4_sh : opsB C I (g_ref08_Parse.o4F R_o5) (St.mk s o) K =
 (guardK (s 71) false
 (demand (faddrV 2 (s 7)) (fun x1 =>
demand (loadV o none x1) (fun x2 =>
demand (iaddrV o 3 (s 5) x2) (fun x3 =>
demand (faddrV 1 x3) (fun x4 =>
demand (loadV o none x4) (fun x5 =>
callK C I (St.mk (upd (upd (upd (upd (upd (upd (upd (upd (upd (upd (upd (upd (upd s 71 (V.d (D.bool false))) 72 (s 5)) 71 (V.d (D.bool false))) 73 x1) 71 (V.d (D.bool false))) 74 x2) 71 (V.d (D.bool false))) 75 x3) 71 (V.d (D.bool false))) 76 x4) 71 (V.d (D.bool false))) 77 x5) 71 (V.d (D.bool false))) o) (some 78) 152 [x5] (fun r6 or6 =>
opsB C I R_o5 (St.mk (look [(2, s 2), (5, s 5), (7, s 7), (8, s 8), (71, (V.d (D.bool false))), (78, r6)]) (looko ([2, 7, 108].map fun n => (n, or6 n)))) K)))))))
 (opsB C I R_o5 (St.mk (look [(2, s 2), (5, s 5), (7, s 7), (8, s 8), (71, (V.d (D.bool true))), (78, (V.tup []))]) (looko ([2, 7, 108].map fun n => (n, o n)))) K)
 (opsB C I R_o5 (St.mk (look [(2, s 2), (5, s 5), (7, s 7), (8, s 8), (71, (V.tup [])), (78, (V.tup []))]) (looko ([2, 7, 108].map fun n => (n, o n)))) K)) := rfl
@[instance] theorem g_ref08_Parse_o4_u : UnfAt (opsB C I g_ref08_Parse.o4 (St.mk s o) K) g_ref08_Parse_o4_sh := Unf.of _
theorem g_ref08_Parse_o3_sh : opsB C I (g_ref08_Parse.o3F R_o4) (St.mk s o) K =
 (demand (pickV (s 62) (V.d (.bool true)) (s 69)) (fun x1 =>
opsB C I R_o4 (St.mk (look [(2, s 2), (5, s 5), (7, s 7), (8, s 8), (71, x1)]) (looko ([2, 7, 108].map fun n => (n, o n)))) K)) := rfl
@[instance] theorem g_ref08_Parse_o3_u : UnfAt (opsB C I g_ref08_Parse.o3 (St.mk s o) K) g_ref08_Parse_o3_sh := Unf.of _
theorem g_ref08_Parse_o2_sh : opsB C I (g_ref08_Parse.o2F R_o3) (St.mk s o) K =
 (guardK (s 62) false
 (demand (faddrV 2 (s 7)) (fun x1 =>
demand (loadV o none x1) (fun x2 =>
demand (iaddrV o 3 (s 5) x2) (fun x3 =>
demand (faddrV 0 x3) (fun x4 =>
demand (loadV o none x4) (fun x5 =>
demand (binV BinOp.neq x5 (V.d (.int .i64 1))) (fun x6 =>
opsB C I R_o3 (St.mk (look [(2, s 2), (5, s 5), (7, s 7), (8, s 8), (62, (V.d (D.bool false))), (69, x6)]) (looko ([2, 7, 108].map fun n => (n, o n)))) K)))))))
 (opsB C I R_o3 (St.mk (look [(2, s 2), (5, s 5), (7, s 7), (8, s 8), (62, (V.d (D.bool true))), (69, (V.tup []))]) (looko ([2, 7, 108].map fun n => (n, o n)))) K)
 (opsB C I R_o3 (St.mk (look [(2, s 2), (5, s 5), (7, s 7), (8, s 8), (62, (V.tup [])), (69, (V.tup []))]) (looko ([2, 7, 108].map fun n => (n, o n)))) K)) := rfl
@[instance] theorem g_ref08_Parse_o2_u : UnfAt (opsB C I g_ref08_Parse.o2 (St.mk s o) K) g_ref08_Parse_o2_sh := Unf.of _
theorem g_ref08_Parse_c1_sh : wpB C I (g_ref08_Parse.c1) (St.mk s o) Q =
 (condK (s 79)
 (demand (loadV o (some 7) (s 7)) (fun x1 =>
callK C I (St.mk (upd s 80 x1) o) (some 81) 194 [x1, (V.d (.int .i64 2))] (fun r2 or2 =>
storeK (s 7) (cellsV r2) 7 or2 (fun m3 ob4 =>
Q (.exit 0) (St.mk (look [(2, s 2), (7, s 7)]) (looko ([2, 7, 108].map fun n => (n, (upd or2 m3 (some ob4)) n))))))))
 (Q .normal (St.mk s o))) := rfl
@[instance] theorem g_ref08_Parse_c1_u : UnfAt (wpB C I g_ref08_Parse.c1 (St.mk s o) Q) g_ref08_Parse_c1_sh := Unf.of _
theorem g_ref08_Parse_c2_sh : wpB C I (g_ref08_Parse.c2) (St.mk s o) Q =
 (demand (loadV o (some 7) (s 10)) (fun x1 =>
callK C I (St.mk (upd s 98 x1) o) (some 99) 195 [x1, (V.d (.str [59]))] (fun r2 or2 =>
storeK (s 7) (cellsV r2) 7 or2 (fun m3 ob4 =>
demand (faddrV 3 (s 7)) (fun x5 =>
demand (faddrV 0 x5) (fun x6 =>
demand (loadV (looko ([2, 7, 108].map fun n => (n, (upd or2 m3 (some ob4)) n))) none x6) (fun x7 =>
demand ((buildN [V.d (.str []), V.d (.str []), V.d (.int .i64 0)] [(0, 1, (s 8)), (1, 1, (s 9)), (2, 1, (s 11))]).map V.agg) (fun x8 =>
lstK (partsN 3 [x8]) (fun es9 =>
lstK (readD (looko ([2, 7, 108].map fun n => (n, (upd or2 m3 (some ob4)) n))) (V.d (D.sl es9))) (fun ys10 => (∀ e ∈ ys10, e.length = 3) ∧ appK x7
 (ys10.length * 40 ≤ 140737488355328 ∧ ys10.length ≤ 140737488355328 ∧ ¬ I 108 ∧ Fresh (St.mk (upd (upd (upd (upd (upd (upd (upd (upd (look [(2, s 2), (5, s 5), (7, s 7), (8, s 8), (9, s 9), (11, s 11)]) 100 x5) 101 x6) 102 x7) 103 (s 8)) 104 (s 9)) 105 (s 11)) 106 x8) 107 (V.d (D.sl es9))) (looko ([2, 7, 108].map fun n => (n, (upd or2 m3 (some ob4)) n)))) 108 (some 108) ∧
demand (faddrV 3 (s 7)) (fun x15 =>
demand (faddrV 0 x15) (fun x16 =>
storeK x16 (cellsV (V.own 108)) 1 (upd (looko ([2, 7, 108].map fun n => (n, (upd or2 m3 (some ob4)) n))) 108 (some (Ob.row 3 ys10))) (fun m17 ob18 =>
Q .normal (St.mk (look [(2, s 2), (5, s 5), (7, s 7)]) (looko ([2, 7, 108].map fun n => (n, (upd (upd (looko ([2, 7, 108].map fun n => (n, (upd or2 m3 (some ob4)) n))) 108 (some (Ob.row 3 ys10))) m17 (some ob18)) n))))))))
 (fun m11 => ¬ I m11 ∧ rowK ((looko ([2, 7, 108].map fun n => (n, (upd or2 m3 (some ob4)) n))) m11) (fun z12 es13 => z12 = 3 ∧ (es13.length + ys10.length) * 40 ≤ 140737488355328 ∧ es13.length + ys10.length ≤ 140737488355328 ∧
demand (faddrV 3 (scrubV m11 (s 7))) (fun x19 =>
demand (faddrV 0 x19) (fun x20 =>
storeK x20 (cellsV (V.own m11)) 1 (upd (fun n => ((looko ([2, 7, 108].map fun n => (n, (upd or2 m3 (some ob4)) n))) n).map (Ob.scrub m11)) m11 (some (Ob.row 3 (es13 ++ ys10)))) (fun m21 ob22 =>
Q .normal (St.mk (look [(2, (scrubV m11 (s 2))), (5, (scrubV m11 (s 5))), (7, (scrubV m11 (s 7)))]) (looko ([2, 7, 108].map fun n => (n, (upd (upd (fun n => ((looko ([2, 7, 108].map fun n => (n, (upd or2 m3 (some ob4)) n))) n).map (Ob.scrub m11)) m11 (some (Ob.row 3 (es13 ++ ys10)))) m21 (some ob22)) n))))))))))))))))))) := rfl
@[instance] theorem g_ref08_Parse_c2_u : UnfAt (wpB C I g_ref08_Parse.c2 (St.mk s o) Q) g_ref08_Parse_c2_sh := Unf.of _
theorem g_ref08_Parse_c3_sh : wpB C I (g_ref08_Parse.c3F R_c2) (St.mk s o) Q =
 (demand (loadV o (some 7) (s 7)) (fun x1 =>
callK C I (St.mk (upd s 93 x1) o) (some 94) 195 [x1, (V.d (.str [61]))] (fun r2 or2 =>
callK C I (St.mk (upd (upd s 93 x1) 94 r2) or2) (some 95) 196 [r2, (V.d (.int .i64 1))] (fun r3 or3 =>
demand (extV r3 0) (fun x4 =>
demand (extV r3 1) (fun x5 =>
(¬ I 10 ∧ Fresh (St.mk (upd (upd (upd (upd (upd (upd s 93 x1) 94 r2) 95 r3) 92 r3) 96 x4) 97 x5) or3) 10 (some 10) ∧ V.refsL 10 [V.cap0, V.d (.int .i64 0), V.d (.int .i64 0), V.cap0, V.cap0, V.d (.int .i64 0), V.d (.int .i64 0)] = false ∧
storeK (V.ptr 10 0) (cellsV x4) 7 (upd or3 10 (some (Ob.box [V.cap0, V.d (.int .i64 0), V.d (.int .i64 0), V.cap0, V.cap0, V.d (.int .i64 0), V.d (.int .i64 0)]))) (fun m6 ob7 =>
wpB C I R_c2 (St.mk (look [(2, s 2), (5, s 5), (7, s 7), (8, s 8), (9, s 9), (10, (V.ptr 10 0)), (11, x5)]) (looko ([2, 7, 10, 108].map fun n => (n, (upd (upd or3 10 (some (Ob.box [V.cap0, V.d (.int .i64 0), V.d (.int .i64 0), V.cap0, V.cap0, V.d (.int .i64 0), V.d (.int .i64 0)]))) m6 (some ob7)) n)))) Q)))))))) := rfl
@[instance] theorem g_ref08_Parse_c3_u : UnfAt (wpB C I g_ref08_Parse.c3 (St.mk s o) Q) g_ref08_Parse_c3_sh := Unf.of _
theorem g_ref08_Parse_c4_sh : wpB C I (g_ref08_Parse.c4F R_c3) (St.mk s o) Q =
 (demand (faddrV 2 (s 7)) (fun x1 =>
demand (loadV o none x1) (fun x2 =>
demand (binV BinOp.add x2 (V.d (.int .i64 1))) (fun x3 =>
demand (faddrV 2 (s 7)) (fun x4 =>
storeK x4 (cellsV x3) 1 o (fun m5 ob6 =>
wpB C I R_c3 (St.mk (look [(2, s 2), (5, s 5), (7, s 7), (8, s 8), (9, s 9)]) (looko ([2, 7, 108].map fun n => (n, (upd o m5 (some ob6)) n)))) Q)))))) := rfl
@[instance] theorem g_ref08_Parse_c4_u : UnfAt (wpB C I g_ref08_Parse.c4 (St.mk s o) Q) g_ref08_Parse_c4_sh := Unf.of _
theorem g_ref08_Parse_c5_sh : wpB C I (g_ref08_Parse.c5F R_c4) (St.mk s o) Q =
 (demand (faddrV 2 (s 7)) (fun x1 =>
demand (loadV o none x1) (fun x2 =>
demand (iaddrV o 3 (s 5) x2) (fun x3 =>
demand (faddrV 1 x3) (fun x4 =>
demand (loadV o none x4) (fun x5 =>
wpB C I R_c4 (St.mk (look [(2, s 2), (5, s 5), (7, s 7), (8, s 8), (9, x5)]) (looko ([2, 7, 108].map fun n => (n, o n)))) Q)))))) := rfl
@[instance] theorem g_ref08_Parse_c5_u : UnfAt (wpB C I g_ref08_Parse.c5 (St.mk s o) Q) g_ref08_Parse_c5_sh := Unf.of _
theorem g_ref08_Parse_c6_sh : wpB C I (g_ref08_Parse.c6F R_o2 R_c1 R_c5) (St.mk s o) Q =
 (demand (faddrV 2 (s 7)) (fun x1 =>
demand (loadV o none x1) (fun x2 =>
demand (lenV o (s 5)) (fun x3 =>
demand (binV BinOp.geq x2 x3) (fun x4 =>
opsB C I R_o2 (St.mk (look [(2, s 2), (5, s 5), (7, s 7), (8, s 8), (62, x4)]) (looko ([2, 7, 108].map fun n => (n, o n)))) (fun st => (seqK (fun st => wpB C I R_c1 st (seqK (fun st => wpB C I R_c5 st Q) Q)) (seqK (fun st => wpB C I R_c5 st Q) Q)) .normal (St.trim st [2, 5, 7, 8, 79] (some [2, 7, 108])))))))) := rfl
@[instance] theorem g_ref08_Parse_c6_u : UnfAt (wpB C I g_ref08_Parse.c6 (St.mk s o) Q) g_ref08_Parse_c6_sh := Unf.of _
theorem g_ref08_Parse_c7_sh : wpB C I (g_ref08_Parse.c7F R_c6) (St.mk s o) Q =
 (demand (faddrV 5 (s 7)) (fun x1 =>
demand (loadV o none x1) (fun x2 =>
demand (binV BinOp.neq x2 (V.d (.int .i64 0))) (fun x3 =>
condK x3
 (Q (.exit 0) (St.mk (look [(2, s 2), (5, s 5), (7, s 7), (8, s 8), (52, x3)]) (looko ([2, 7, 108].map fun n => (n, o n)))))
 (demand (faddrV 2 (s 7)) (fun x4 =>
demand (loadV (looko ([2, 7, 108].map fun n => (n, o n))) none x4) (fun x5 =>
demand (binV BinOp.add x5 (V.d (.int .i64 1))) (fun x6 =>
demand (faddrV 2 (s 7)) (fun x7 =>
storeK x7 (cellsV x6) 1 (looko ([2, 7, 108].map fun n => (n, o n))) (fun m8 ob9 =>
wpB C I R_c6 (St.mk (look [(2, s 2), (5, s 5), (7, s 7), (8, s 8)]) (looko ([2, 7, 108].map fun n => (n, (upd (looko ([2, 7, 108].map fun n => (n, o n))) m8 (some ob9)) n)))) Q)))))))))) := rfl
@[instance] theorem g_ref08_Parse_c7_u : UnfAt (wpB C I g_ref08_Parse.c7 (St.mk s o) Q) g_ref08_Parse_c7_sh := Unf.of _
theorem g_ref08_Parse_c8_sh : wpB C I (g_ref08_Parse.c8F R_c7) (St.mk s o) Q =
 (demand (loadV o (some 7) (s 7)) (fun x1 =>
callK C I (St.mk (upd s 35 x1) o) (some 36) 193 [x1] (fun r2 or2 =>
lstK (partsN 1 [(V.d (.str [101, 97, 114, 110])), (V.d (.str [112, 114, 101, 116, 97, 120])), (V.d (.str [112, 111, 115, 116])), (V.d (.str [108, 101, 116]))]) (fun es3 =>
callK C I (St.mk (upd (upd (look [(2, s 2), (5, s 5), (7, s 7), (8, r2)]) 37 r2) 38 (V.d (D.sl es3))) (looko ([2, 7, 108].map fun n => (n, or2 n)))) (some 39) 154 [r2, (V.d (D.sl es3))] (fun r4 or4 =>
demand (unV UnOp.not r4) (fun x5 =>
condK x5
 (demand (loadV (looko ([2, 7, 108].map fun n => (n, or4 n))) (some 7) (s 7)) (fun x6 =>
callK C I (St.mk (upd (look [(2, s 2), (5, s 5), (7, s 7), (8, r2), (40, x5)]) 41 x6) (looko ([2, 7, 108].map fun n => (n, or4 n)))) (some 42) 194 [x6, (V.d (.int .i64 2))] (fun r7 or7 =>
storeK (s 7) (cellsV r7) 7 or7 (fun m8 ob9 =>
wpB C I R_c7 (St.mk (look [(2, s 2), (5, s 5), (7, s 7), (8, r2)]) (looko ([2, 7, 108].map fun n => (n, (upd or7 m8 (some ob9)) n)))) (blockK 1 [2, 5, 7] (some [2, 7, 108]) Q)))))
 (demand (faddrV 3 (s 7)) (fun x10 =>
demand (faddrV 0 x10) (fun x11 =>
demand (loadV (looko ([2, 7, 108].map fun n => (n, or4 n))) none x11) (fun x12 =>
demand (lenV (looko ([2, 7, 108].map fun n => (n, or4 n))) x12) (fun x13 =>
demand (binV BinOp.gtr x13 (V.d (.int .i64 59))) (fun x14 =>
condK x14
 (demand (loadV (looko ([2, 7, 108].map fun n => (n, or4 n))) (some 7) (s 7)) (fun x15 =>
callK C I (St.mk (upd (look [(2, s 2), (5, s 5), (7, s 7), (8, r2), (47, x14)]) 48 x15) (looko ([2, 7, 108].map fun n => (n, or4 n)))) (some 49) 194 [x15, (V.d (.int .i64 9))] (fun r16 or16 =>
storeK (s 7) (cellsV r16) 7 or16 (fun m17 ob18 =>
wpB C I R_c7 (St.mk (look [(2, s 2), (5, s 5), (7, s 7), (8, r2)]) (looko ([2, 7, 108].map fun n => (n, (upd or16 m17 (some ob18)) n)))) (blockK 1 [2, 5, 7] (some [2, 7, 108]) Q)))))
 (wpB C I R_c7 (St.mk (look [(2, s 2), (5, s 5), (7, s 7), (8, r2), (47, x14)]) (looko ([2, 7, 108].map fun n => (n, or4 n)))) (blockK 1 [2, 5, 7] (some [2, 7, 108]) Q)))))))))))))) := rfl
@[instance] theorem g_ref08_Parse_c8_u : UnfAt (wpB C I g_ref08_Parse.c8 (St.mk s o) Q) g_ref08_Parse_c8_sh := Unf.of _
theorem g_ref08_Parse_l0_sh (hL : R_l0 = g_ref08_Parse.l0F R_o0 R_c0 R_c8)
 (h : demand (faddrV 2 (s 7)) (fun x1 =>
demand (loadV (looko ([2, 7, 108].map fun n => (n, o n))) none x1) (fun x2 =>
demand (lenV (looko ([2, 7, 108].map fun n => (n, o n))) (s 5)) (fun x3 =>
demand (binV BinOp.lss x2 x3) (fun x4 =>
opsB C I R_o0 (St.mk (look [(2, s 2), (5, s 5), (7, s 7), (30, x4)]) (looko ([2, 7, 108].map fun n => (n, o n)))) (fun st => (seqK (fun st => wpB C I R_c0 st (seqK (fun st => wpB C I R_c8 st (seqK (fun s => wpB C I R_l0 s Q) Q)) (seqK (fun s => wpB C I R_l0 s Q) Q))) (seqK (fun st => wpB C I R_c8 st (seqK (fun s => wpB C I R_l0 s Q) Q)) (seqK (fun s => wpB C I R_l0 s Q) Q))) .normal (St.trim st [2, 5, 7, 34] (some [2, 7, 108])))))))) : wpB C I R_l0 (St.mk s o) Q := w_loopC hL h
theorem g_ref08_Parse_c9_sh : wpB C I (g_ref08_Parse.c9) (St.mk s o) Q =
 (demand (faddrV 3 (s 7)) (fun x1 =>
demand (loadV o (some 2) x1) (fun x2 =>
storeK (s 2) (cellsV x2) 2 o (fun m3 ob4 =>
Q .ret (St.mk (look [(2, s 2), (3, (V.d (.int .i64 0))), (4, (V.d (.int .i64 0)))]) (looko ([2, 108].map fun n => (n, (upd o m3 (some ob4)) n)))))))) := rfl
@[instance] theorem g_ref08_Parse_c9_u : UnfAt (wpB C I g_ref08_Parse.c9 (St.mk s o) Q) g_ref08_Parse_c9_sh := Unf.of _
theorem g_ref08_Parse_c10_sh : wpB C I (g_ref08_Parse.c10F R_c9) (St.mk s o) Q =
 (demand (faddrV 5 (s 7)) (fun x1 =>
demand (loadV o none x1) (fun x2 =>
demand (binV BinOp.neq x2 (V.d (.int .i64 0))) (fun x3 =>
condK x3
 (V.undef = V.undef ∧ (demand ((buildN [V.cap0, V.cap0] []).map V.agg) (fun x4 => quietV (looko ([2, 7, 108].map fun n => (n, o n))) (x4 :: []) ∧
V.undef = V.undef ∧ (demand (faddrV 6 (s 7)) (fun x5 => quietV (looko ([2, 7, 108].map fun n => (n, o n))) (x5 :: [(s 7)]) ∧
V.undef = V.undef ∧ (demand (loadV (looko ([2, 7, 108].map fun n => (n, o n))) none x5) (fun x6 => quietV (looko ([2, 7, 108].map fun n => (n, o n))) (x6 :: [x5]) ∧
watchV (looko ([2, 7, 108].map fun n => (n, o n))) [(s 2)] [x5] ∧
V.undef = V.undef ∧ (demand (faddrV 5 (s 7)) (fun x7 => quietV (looko ([2, 7, 108].map fun n => (n, o n))) (x7 :: [(s 7)]) ∧
V.undef = V.undef ∧ (demand (loadV (looko ([2, 7, 108].map fun n => (n, o n))) none x7) (fun x8 => quietV (looko ([2, 7, 108].map fun n => (n, o n))) (x8 :: [x7]) ∧
watchV (looko ([2, 7, 108].map fun n => (n, o n))) [(s 2)] [x7] ∧
(([] : List Nat) = [] ∧ (storeK (s 2) (cellsV x4) 2 (looko ([2, 7, 108].map fun n => (n, o n))) (fun m9 ob10 =>
(([] : List Nat) = [] ∧ ((([] : List Nat) = [] ∧ (Q .ret (St.mk (look [(2, s 2), (3, x6), (4, x8)]) (looko ([2, 108].map fun n => (n, (upd (looko ([2, 7, 108].map fun n => (n, o n))) m9 (some ob10)) n))))))))))))))))))))))
 (wpB C I R_c9 (St.mk (look [(2, s 2), (7, s 7), (113, x3)]) (looko ([2, 7, 108].map fun n => (n, o n)))) Q))))) := rfl
@[instance] theorem g_ref08_Parse_c10_u : UnfAt (wpB C I g_ref08_Parse.c10 (St.mk s o) Q) g_ref08_Parse_c10_sh := Unf.of _
theorem g_ref08_Parse_c11_sh : wpB C I (g_ref08_Parse.c11F R_l0 R_c10) (St.mk s o) Q =
 (wpB C I R_l0 (St.mk s o) (blockK 0 [2, 7] (some [2, 7, 108]) (seqK (fun st => wpB C I R_c10 st Q) Q))) := rfl
@[instance] theorem g_ref08_Parse_c11_u : UnfAt (wpB C I g_ref08_Parse.c11 (St.mk s o) Q) g_ref08_Parse_c11_sh := Unf.of _
theorem g_ref08_Parse_c12_sh : wpB C I (g_ref08_Parse.c12F R_c11) (St.mk s o) Q =
 (demand (lenSV (s 0)) (fun x1 =>
demand ((buildN [V.cap0, V.d (.int .i64 0), V.d (.int .i64 0), V.cap0, V.cap0, V.d (.int .i64 0), V.d (.int .i64 0)] [(0, 1, (s 5)), (1, 1, x1)]).map V.agg) (fun x2 =>
(¬ I 7 ∧ Fresh (St.mk (upd (upd (upd (upd s 21 (s 5)) 22 (s 0)) 23 x1) 24 x2) o) 7 (some 7) ∧ V.refsL 7 [V.cap0, V.d (.int .i64 0), V.d (.int .i64 0), V.cap0, V.cap0, V.d (.int .i64 0), V.d (.int .i64 0)] = false ∧
storeK (V.ptr 7 0) (cellsV x2) 7 (upd o 7 (some (Ob.box [V.cap0, V.d (.int .i64 0), V.d (.int .i64 0), V.cap0, V.cap0, V.d (.int .i64 0), V.d (.int .i64 0)]))) (fun m3 ob4 =>
wpB C I R_c11 (St.mk (look [(2, s 2), (5, s 5), (7, (V.ptr 7 0))]) (looko ([2, 7, 108].map fun n => (n, (upd (upd o 7 (some (Ob.box [V.cap0, V.d (.int .i64 0), V.d (.int .i64 0), V.cap0, V.cap0, V.d (.int .i64 0), V.d (.int .i64 0)]))) m3 (some ob4)) n)))) Q))))) := rfl
@[instance] theorem g_ref08_Parse_c12_u : UnfAt (wpB C I g_ref08_Parse.c12 (St.mk s o) Q) g_ref08_Parse_c12_sh := Unf.of _
theorem g_ref08_Parse_c13_sh : wpB C I (g_ref08_Parse.c13F R_c12) (St.mk s o) Q =
 (demand (binV BinOp.geq (s 6) (V.d (.int .i64 0))) (fun x1 =>
condK x1
 (demand ((buildN [V.cap0, V.cap0] []).map V.agg) (fun x2 =>
storeK (s 2) (cellsV x2) 2 (looko ([2, 108].map fun n => (n, o n))) (fun m3 ob4 =>
Q .ret (St.mk (look [(2, s 2), (3, s 6), (4, (V.d (.int .i64 2)))]) (looko ([2, 108].map fun n => (n, (upd (looko ([2, 108].map fun n => (n, o n))) m3 (some ob4)) n)))))))
 (wpB C I R_c12 (St.mk (look [(0, s 0), (2, s 2), (5, s 5), (6, s 6), (18, x1)]) (looko ([2, 108].map fun n => (n, o n)))) Q))) := rfl
@[instance] theorem g_ref08_Parse_c13_u : UnfAt (wpB C I g_ref08_Parse.c13 (St.mk s o) Q) g_ref08_Parse_c13_sh := Unf.of _
theorem g_ref08_Parse_code_sh : wpB C I (g_ref08_Parse.codeF R_c13) (St.mk s o) Q =
 ((¬ I 2 ∧ Fresh (St.mk s o) 2 (some 2) ∧ V.refsL 2 [V.cap0, V.cap0] = false ∧
callK C I (St.mk (upd (look [(0, s 0), (2, (V.ptr 2 0))]) 13 (s 0)) (looko ([2, 108].map fun n => (n, (upd o 2 (some (Ob.box [V.cap0, V.cap0]))) n)))) (some 14) 75 [(s 0)] (fun r1 or1 =>
demand (extV r1 0) (fun x2 =>
demand (extV r1 1) (fun x3 =>
wpB C I R_c13 (St.mk (look [(0, s 0), (2, (V.ptr 2 0)), (5, x2), (6, x3)]) (looko ([2, 108].map fun n => (n, or1 n)))) Q))))) := rfl
@[instance] theorem g_ref08_Parse_code_u : UnfAt (wpB C I g_ref08_Parse.code (St.mk s o) Q) g_ref08_Parse_code_sh := Unf.of _
theorem g_ref08_Same_o1_sh : opsB C I (g_ref08_Same.o1) (St.mk s o) K =
 (demand (pickV (s 14) (V.d (.bool true)) (s 21)) (fun x1 =>
K (St.mk (upd s 22 x1) o))) := rfl
@[instance] theorem g_ref08_Same_o1_u : UnfAt (opsB C I g_ref08_Same.o1 (St.mk s o) K) g_ref08_Same_o1_sh := Unf.of _
theorem g_ref08_Same_o0_sh : opsB C I (g_ref08_Same.o0F R_o1) (St.mk s o) K =
 (guardK (s 14) false
 (demand (faddrV 1 (s 2)) (fun x1 =>
demand (loadV o none x1) (fun x2 =>
demand (lenV o x2) (fun x3 =>
demand (faddrV 1 (s 3)) (fun x4 =>
demand (loadV o none x4) (fun x5 =>
demand (lenV o x5) (fun x6 =>
demand (binV BinOp.neq x3 x6) (fun x7 =>
opsB C I R_o1 (St.mk (look [(2, s 2), (3, s 3), (14, (V.d (D.bool false))), (21, x7)]) (looko ([2, 3].map fun n => (n, o n)))) K))))))))
 (opsB C I R_o1 (St.mk (look [(2, s 2), (3, s 3), (14, (V.d (D.bool true))), (21, (V.tup []))]) (looko ([2, 3].map fun n => (n, o n)))) K)
 (opsB C I R_o1 (St.mk (look [(2, s 2), (3, s 3), (14, (V.tup [])), (21, (V.tup []))]) (looko ([2, 3].map fun n => (n, o n)))) K)) := rfl
@[instance] theorem g_ref08_Same_o0_u : UnfAt (opsB C I g_ref08_Same.o0 (St.mk s o) K) g_ref08_Same_o0_sh := Unf.of _
theorem g_ref08_Same_c0_sh : wpB C I (g_ref08_Same.c0) (St.mk s o) Q =
 (condK (s 22)
 (Q .ret (St.mk (look [(4, (V.d (.bool false)))]) (looko ([].map fun n => (n, o n)))))
 (Q .normal (St.mk s o))) := rfl
@[instance] theorem g_ref08_Same_c0_u : UnfAt (wpB C I g_ref08_Same.c0 (St.mk s o) Q) g_ref08_Same_c0_sh := Unf.of _
theorem g_ref08_Same_c1_sh : wpB C I (g_ref08_Same.c1) (St.mk s o) Q =
 (demand (binV BinOp.add (s 5) (V.d (.int .i64 1))) (fun x1 =>
Q .normal (St.mk (look [(2, s 2), (3, s 3), (5, x1)]) (looko ([2, 3].map fun n => (n, o n)))))) := rfl
@[instance] theorem g_ref08_Same_c1_u : UnfAt (wpB C I g_ref08_Same.c1 (St.mk s o) Q) g_ref08_Same_c1_sh := Unf.of _
theorem g_ref08_Same_c2_sh : wpB C I (g_ref08_Same.c2F R_c1) (St.mk s o) Q =
 ((s 30) = V.undef ∧ (demand (faddrV 0 (s 2)) (fun x1 => quietV o (x1 :: [(s 2)]) ∧
(s 31) = V.undef ∧ (demand (loadV o none x1) (fun x2 => quietV o (x2 :: [x1]) ∧
(s 32) = V.undef ∧ (quietV o ((s 5) :: [(s 5)]) ∧
(s 33) = V.undef ∧ (demand (iaddrV o 3 x2 (s 5)) (fun x4 => quietV o (x4 :: [x2, (s 5)]) ∧
(s 34) = V.undef ∧ (demand (loadV o (some 3) x4) (fun x5 => quietV o (x5 :: [x4]) ∧
(s 35) = V.undef ∧ (demand (faddrV 0 (s 3)) (fun x6 => quietV o (x6 :: [(s 3)]) ∧
(s 36) = V.undef ∧ (demand (loadV o none x6) (fun x7 => quietV o (x7 :: [x6]) ∧
(s 37) = V.undef ∧ (quietV o ((s 5) :: [(s 5)]) ∧
(s 38) = V.undef ∧ (demand (iaddrV o 3 x7 (s 5)) (fun x9 => quietV o (x9 :: [x7, (s 5)]) ∧
(s 39) = V.undef ∧ (demand (loadV o (some 3) x9) (fun x10 => quietV o (x10 :: [x9]) ∧
(s 40) = V.undef ∧ (demand (eqsV true [2, 2, 0] x5 x10) (fun x11 => quietV o (x11 :: [x5, x10]) ∧
condK x11
 (Q .ret (St.mk (look [(4, (V.d (.bool false)))]) (looko ([].map fun n => (n, o n)))))
 (wpB C I R_c1 (St.mk (look [(2, s 2), (3, s 3), (5, s 5)]) (looko ([2, 3].map fun n => (n, o n)))) Q)))))))))))))))))))))) := rfl
@[instance] theorem g_ref08_Same_c2_u : UnfAt (wpB C I g_ref08_Same.c2 (St.mk s o) Q) g_ref08_Same_c2_sh := Unf.of _
theorem g_ref08_Same_l0_sh (hL : R_l0 = g_ref08_Same.l0F R_c2)
 (h : demand (faddrV 0 (s 2)) (fun x1 =>
demand (loadV (looko ([2, 3].map fun n => (n, o n))) none x1) (fun x2 =>
demand (lenV (looko ([2, 3].map fun n => (n, o n))) x2) (fun x3 =>
demand (binV BinOp.lss (s 5) x3) (fun x4 =>
condK x4
 (wpB C I R_c2 (St.mk (look [(2, s 2), (3, s 3), (5, s 5), (27, x4)]) (looko ([2, 3].map fun n => (n, o n)))) (seqK (fun s => wpB C I R_l0 s Q) Q))
 (Q (.exit 0) (St.mk (look [(2, s 2), (3, s 3), (5, s 5), (27, x4)]) (looko ([2, 3].map fun n => (n, o n)))))))))) : wpB C I R_l0 (St.mk s o) Q := w_loopC hL h
theorem g_ref08_Same_c3_sh : wpB C I (g_ref08_Same.c3) (St.mk s o) Q =
 (demand (binV BinOp.add (s 6) (V.d (.int .i64 1))) (fun x1 =>
Q .normal (St.mk (look [(2, s 2), (3, s 3), (6, x1)]) (looko ([2, 3].map fun n => (n, o n)))))) := rfl
@[instance] theorem g_ref08_Same_c3_u : UnfAt (wpB C I g_ref08_Same.c3 (St.mk s o) Q) g_ref08_Same_c3_sh := Unf.of _
theorem g_ref08_Same_c4_sh : wpB C I (g_ref08_Same.c4F R_c3) (St.mk s o) Q =
 ((s 48) = V.undef ∧ (demand (faddrV 1 (s 2)) (fun x1 => quietV o (x1 :: [(s 2)]) ∧
(s 49) = V.undef ∧ (demand (loadV o none x1) (fun x2 => quietV o (x2 :: [x1]) ∧
(s 50) = V.undef ∧ (quietV o ((s 6) :: [(s 6)]) ∧
(s 51) = V.undef ∧ (demand (iaddrV o 6 x2 (s 6)) (fun x4 => quietV o (x4 :: [x2, (s 6)]) ∧
(s 52) = V.undef ∧ (demand (loadV o (some 6) x4) (fun x5 => quietV o (x5 :: [x4]) ∧
(s 53) = V.undef ∧ (demand (faddrV 1 (s 3)) (fun x6 => quietV o (x6 :: [(s 3)]) ∧
(s 54) = V.undef ∧ (demand (loadV o none x6) (fun x7 => quietV o (x7 :: [x6]) ∧
(s 55) = V.undef ∧ (quietV o ((s 6) :: [(s 6)]) ∧
(s 56) = V.undef ∧ (demand (iaddrV o 6 x7 (s 6)) (fun x9 => quietV o (x9 :: [x7, (s 6)]) ∧
(s 57) = V.undef ∧ (demand (loadV o (some 6) x9) (fun x10 => quietV o (x10 :: [x9]) ∧
(s 58) = V.undef ∧ (demand (eqsV true [2, 2, 0, 0, 0, 0] x5 x10) (fun x11 => quietV o (x11 :: [x5, x10]) ∧
condK x11
 (Q .ret (St.mk (look [(4, (V.d (.bool false)))]) (looko ([].map fun n => (n, o n)))))
 (wpB C I R_c3 (St.mk (look [(2, s 2), (3, s 3), (6, s 6)]) (looko ([2, 3].map fun n => (n, o n)))) Q)))))))))))))))))))))) := rfl
@[instance] theorem g_ref08_Same_c4_u : UnfAt (wpB C I g_ref08_Same.c4 (St.mk s o) Q) g_ref08_Same_c4_sh := Unf.of _
theorem g_ref08_Same_l1_sh (hL : R_l1 = g_ref08_Same.l1F R_c4)
 (h : demand (faddrV 1 (s 2)) (fun x1 =>
demand (loadV (looko ([2, 3].map fun n => (n, o n))) none x1) (fun x2 =>
demand (lenV (looko ([2, 3].map fun n => (n, o n))) x2) (fun x3 =>
demand (binV BinOp.lss (s 6) x3) (fun x4 =>
condK x4
 (wpB C I R_c4 (St.mk (look [(2, s 2), (3, s 3), (6, s 6), (45, x4)]) (looko ([2, 3].map fun n => (n, o n)))) (seqK (fun s => wpB C I R_l1 s Q) Q))
 (Q (.exit 2) (St.mk (look [(2, s 2), (3, s 3), (6, s 6), (45, x4)]) (looko ([2, 3].map fun n => (n, o n)))))))))) : wpB C I R_l1 (St.mk s o) Q := w_loopC hL h
theorem g_ref08_Same_c5_sh : wpB C I (g_ref08_Same.c5) (St.mk s o) Q =
 (Q .ret (St.mk (look [(4, (V.d (.bool true)))]) (looko ([].map fun n => (n, o n))))) := rfl
@[instance] theorem g_ref08_Same_c5_u : UnfAt (wpB C I g_ref08_Same.c5 (St.mk s o) Q) g_ref08_Same_c5_sh := Unf.of _
theorem g_ref08_Same_c6_sh : wpB C I (g_ref08_Same.c6F R_l1 R_c5) (St.mk s o) Q =
 (wpB C I R_l1 (St.mk (look [(2, s 2), (3, s 3), (6, (V.d (.int .i64 0)))]) (looko ([2, 3].map fun n => (n, o n)))) (blockK 2 [] (some []) (seqK (fun st => wpB C I R_c5 st Q) Q))) := rfl
@[instance] theorem g_ref08_Same_c6_u : UnfAt (wpB C I g_ref08_Same.c6 (St.mk s o) Q) g_ref08_Same_c6_sh := Unf.of _
theorem g_ref08_Same_c7_sh : wpB C I (g_ref08_Same.c7F R_l0 R_c6) (St.mk s o) Q =
 (wpB C I R_l0 (St.mk (look [(2, s 2), (3, s 3), (5, (V.d (.int .i64 0)))]) (looko ([2, 3].map fun n => (n, o n)))) (blockK 0 [2, 3] (some [2, 3]) (seqK (fun st => wpB C I R_c6 st Q) Q))) := rfl
@[instance] theorem g_ref08_Same_c7_u : UnfAt (wpB C I g_ref08_Same.c7 (St.mk s o) Q) g_ref08_Same_c7_sh := Unf.of _
theorem g_ref08_Same_code_sh : wpB C I (g_ref08_Same.codeF R_o0 R_c0 R_c7) (St.mk s o) Q =
 (lstK (cellsV (s 0)) (fun c1 => c1.length = 2 ∧ ¬ I 2 ∧ Fresh (St.mk s o) 2 (some 2) ∧ V.refsL 2 c1 = false ∧
lstK (cellsV (s 1)) (fun c2 => c2.length = 2 ∧ ¬ I 3 ∧ Fresh (St.mk (upd s 2 (V.ptr 2 0)) (upd o 2 (some (Ob.box c1)))) 3 (some 3) ∧ V.refsL 3 c2 = false ∧
demand (faddrV 0 (V.ptr 2 0)) (fun x3 =>
demand (loadV (looko ([2, 3].map fun n => (n, (upd (upd o 2 (some (Ob.box c1))) 3 (some (Ob.box c2))) n))) none x3) (fun x4 =>
demand (lenV (looko ([2, 3].map fun n => (n, (upd (upd o 2 (some (Ob.box c1))) 3 (some (Ob.box c2))) n))) x4) (fun x5 =>
demand (faddrV 0 (V.ptr 3 0)) (fun x6 =>
demand (loadV (looko ([2, 3].map fun n => (n, (upd (upd o 2 (some (Ob.box c1))) 3 (some (Ob.box c2))) n))) none x6) (fun x7 =>
demand (lenV (looko ([2, 3].map fun n => (n, (upd (upd o 2 (some (Ob.box c1))) 3 (some (Ob.box c2))) n))) x7) (fun x8 =>
demand (binV BinOp.neq x5 x8) (fun x9 =>
opsB C I R_o0 (St.mk (look [(2, (V.ptr 2 0)), (3, (V.ptr 3 0)), (14, x9)]) (looko ([2, 3].map fun n => (n, (upd (upd o 2 (some (Ob.box c1))) 3 (some (Ob.box c2))) n)))) (fun st => (seqK (fun st => wpB C I R_c0 st (seqK (fun st => wpB C I R_c7 st Q) Q)) (seqK (fun st => wpB C I R_c7 st Q) Q)) .normal (St.trim st [2, 3, 22] (some [2, 3]))))))))))))) := rfl
@[instance] theorem g_ref08_Same_code_u : UnfAt (wpB C I g_ref08_Same.code (St.mk s o) Q) g_ref08_Same_code_sh := Unf.of _
theorem g_law08_ref_c0_sh : wpB C I (g_law08_ref.c0) (St.mk s o) Q =
 (demand (faddrV 0 (s 3)) (fun x1 =>
demand (loadV o none x1) (fun x2 =>
demand (loadV o (some 3) (s 5)) (fun x3 =>
lstK (partsN 3 [x3]) (fun es4 =>
lstK (readD o (V.d (D.sl es4))) (fun ys5 => (∀ e ∈ ys5, e.length = 3) ∧ appK x2
 (ys5.length * 40 ≤ 140737488355328 ∧ ys5.length ≤ 140737488355328 ∧ ¬ I 19 ∧ Fresh (St.mk (upd (upd (upd (upd s 15 x1) 16 x2) 17 x3) 18 (V.d (D.sl es4))) o) 19 (some 19) ∧
demand (faddrV 0 (s 3)) (fun x10 =>
storeK x10 (cellsV (V.own 19)) 1 (upd o 19 (some (Ob.row 3 ys5))) (fun m11 ob12 =>
Q .normal (St.mk (look [(1, s 1), (2, s 2), (3, s 3), (9, s 9), (10, s 10), (11, s 11)]) (looko ([1, 2, 3, 19, 33].map fun n => (n, (upd (upd o 19 (some (Ob.row 3 ys5))) m11 (some ob12)) n)))))))
 (fun m6 => ¬ I m6 ∧ rowK (o m6) (fun z7 es8 => z7 = 3 ∧ (es8.length + ys5.length) * 40 ≤ 140737488355328 ∧ es8.length + ys5.length ≤ 140737488355328 ∧
demand (faddrV 0 ((fun t => scrubV m6 (s t)) 3)) (fun x13 =>
storeK x13 (cellsV (V.own m6)) 1 (upd (fun n => (o n).map (Ob.scrub m6)) m6 (some (Ob.row 3 (es8 ++ ys5)))) (fun m14 ob15 =>
Q .normal (St.mk (look [(1, ((fun t => scrubV m6 (s t)) 1)), (2, ((fun t => scrubV m6 (s t)) 2)), (3, ((fun t => scrubV m6 (s t)) 3)), (9, ((fun t => scrubV m6 (s t)) 9)), (10, ((fun t => scrubV m6 (s t)) 10)), (11, ((fun t => scrubV m6 (s t)) 11))]) (looko ([1, 2, 3, 19, 33].map fun n => (n, (upd (upd (fun n => (o n).map (Ob.scrub m6)) m6 (some (Ob.row 3 (es8 ++ ys5)))) m14 (some ob15)) n)))))))))))))) := rfl
@[instance] theorem g_law08_ref_c0_u : UnfAt (wpB C I g_law08_ref.c0 (St.mk s o) Q) g_law08_ref_c0_sh := Unf.of _
theorem g_law08_ref_c1_sh : wpB C I (g_law08_ref.c1) (St.mk s o) Q =
 (demand (binV BinOp.add (s 11) (V.d (.int .i64 1))) (fun x1 =>
Q .normal (St.mk (look [(1, s 1), (2, s 2), (3, s 3), (9, s 9), (10, s 10), (11, x1)]) (looko ([1, 2, 3, 19, 33].map fun n => (n, o n)))))) := rfl
@[instance] theorem g_law08_ref_c1_u : UnfAt (wpB C I g_law08_ref.c1 (St.mk s o) Q) g_law08_ref_c1_sh := Unf.of _
theorem g_law08_ref_l0_sh (hL : R_l0 = g_law08_ref.l0F R_c0 R_c1)
 (h : demand (binV BinOp.lss (s 11) (s 10)) (fun x1 =>
condK x1
 (demand (iaddrV (looko ([1, 2, 3, 19, 33].map fun n => (n, o n))) 3 (s 9) (s 11)) (fun x2 =>
demand (loadV (looko ([1, 2, 3, 19, 33].map fun n => (n, o n))) (some 3) x2) (fun x3 =>
(¬ I 5 ∧ Fresh (St.mk (upd (upd (look [(1, s 1), (2, s 2), (3, s 3), (9, s 9), (10, s 10), (11, s 11), (12, x1)]) 13 x2) 14 x3) (looko ([1, 2, 3, 19, 33].map fun n => (n, o n)))) 5 (some 5) ∧ V.refsL 5 [V.d (.str []), V.d (.str []), V.d (.int .i64 0)] = false ∧
storeK (V.ptr 5 0) (cellsV x3) 3 (upd (looko ([1, 2, 3, 19, 33].map fun n => (n, o n))) 5 (some (Ob.box [V.d (.str []), V.d (.str []), V.d (.int .i64 0)]))) (fun m4 ob5 =>
wpB C I R_c0 (St.mk (look [(1, s 1), (2, s 2), (3, s 3), (5, (V.ptr 5 0)), (9, s 9), (10, s 10), (11, s 11)]) (looko ([1, 2, 3, 5, 19, 33].map fun n => (n, (upd (upd (looko ([1, 2, 3, 19, 33].map fun n => (n, o n))) 5 (some (Ob.box [V.d (.str []), V.d (.str []), V.d (.int .i64 0)]))) m4 (some ob5)) n)))) (blockK 1 [1, 2, 3, 9, 10, 11] (some [1, 2, 3, 19, 33]) (seqK (fun st => wpB C I R_c1 st (seqK (fun s => wpB C I R_l0 s Q) Q)) (seqK (fun s => wpB C I R_l0 s Q) Q))))))))
 (Q (.exit 0) (St.mk (look [(1, s 1), (2, s 2), (3, s 3), (9, s 9), (10, s 10), (11, s 11), (12, x1)]) (looko ([1, 2, 3, 19, 33].map fun n => (n, o n))))))) : wpB C I R_l0 (St.mk s o) Q := w_loopC hL h
theorem g_law08_ref_c2_sh : wpB C I (g_law08_ref.c2F R_l0) (St.mk s o) Q =
 (wpB C I R_l0 (St.mk s o) (blockK 0 [1, 2, 3] (some [1, 2, 3, 19, 33]) Q)) := rfl
@[instance] theorem g_law08_ref_c2_u : UnfAt (wpB C I g_law08_ref.c2 (St.mk s o) Q) g_law08_ref_c2_sh := Unf.of _
theorem g_law08_ref_c3_sh : wpB C I (g_law08_ref.c3) (St.mk s o) Q =
 (demand (faddrV 1 (s 3)) (fun x1 =>
demand (loadV o none x1) (fun x2 =>
demand (loadV o (some 6) (s 7)) (fun x3 =>
lstK (partsN 6 [x3]) (fun es4 =>
lstK (readD o (V.d (D.sl es4))) (fun ys5 => (∀ e ∈ ys5, e.length = 6) ∧ appK x2
 (ys5.length * 64 ≤ 140737488355328 ∧ ys5.length ≤ 140737488355328 ∧ ¬ I 33 ∧ Fresh (St.mk (upd (upd (upd (upd s 29 x1) 30 x2) 31 x3) 32 (V.d (D.sl es4))) o) 33 (some 33) ∧
demand (faddrV 1 (s 3)) (fun x10 =>
storeK x10 (cellsV (V.own 33)) 1 (upd o 33 (some (Ob.row 6 ys5))) (fun m11 ob12 =>
Q .normal (St.mk (look [(2, s 2), (3, s 3), (23, s 23), (24, s 24), (25, s 25)]) (looko ([2, 3, 19, 33].map fun n => (n, (upd (upd o 33 (some (Ob.row 6 ys5))) m11 (some ob12)) n)))))))
 (fun m6 => ¬ I m6 ∧ rowK (o m6) (fun z7 es8 => z7 = 6 ∧ (es8.length + ys5.length) * 64 ≤ 140737488355328 ∧ es8.length + ys5.length ≤ 140737488355328 ∧
demand (faddrV 1 ((fun t => scrubV m6 (s t)) 3)) (fun x13 =>
storeK x13 (cellsV (V.own m6)) 1 (upd (fun n => (o n).map (Ob.scrub m6)) m6 (some (Ob.row 6 (es8 ++ ys5)))) (fun m14 ob15 =>
Q .normal (St.mk (look [(2, ((fun t => scrubV m6 (s t)) 2)), (3, ((fun t => scrubV m6 (s t)) 3)), (23, ((fun t => scrubV m6 (s t)) 23)), (24, ((fun t => scrubV m6 (s t)) 24)), (25, ((fun t => scrubV m6 (s t)) 25))]) (looko ([2, 3, 19, 33].map fun n => (n, (upd (upd (fun n => (o n).map (Ob.scrub m6)) m6 (some (Ob.row 6 (es8 ++ ys5)))) m14 (some ob15)) n)))))))))))))) := rfl
@[instance] theorem g_law08_ref_c3_u : UnfAt (wpB C I g_law08_ref.c3 (St.mk s o) Q) g_law08_ref_c3_sh := Unf.of _
theorem g_law08_ref_c4_sh : wpB C I (g_law08_ref.c4) (St.mk s o) Q =
 (demand (binV BinOp.add (s 25) (V.d (.int .i64 1))) (fun x1 =>
Q .normal (St.mk (look [(2, s 2), (3, s 3), (23, s 23), (24, s 24), (25, x1)]) (looko ([2, 3, 19, 33].map fun n => (n, o n)))))) := rfl
@[instance] theorem g_law08_ref_c4_u : UnfAt (wpB C I g_law08_ref.c4 (St.mk s o) Q) g_law08_ref_c4_sh := Unf.of _
theorem g_law08_ref_l1_sh (hL : R_l1 = g_law08_ref.l1F R_c3 R_c4)
 (h : demand (binV BinOp.lss (s 25) (s 24)) (fun x1 =>
condK x1
 (demand (iaddrV (looko ([2, 3, 19, 33].map fun n => (n, o n))) 6 (s 23) (s 25)) (fun x2 =>
demand (loadV (looko ([2, 3, 19, 33].map fun n => (n, o n))) (some 6) x2) (fun x3 =>
(¬ I 7 ∧ Fresh (St.mk (upd (upd (look [(2, s 2), (3, s 3), (23, s 23), (24, s 24), (25, s 25), (26, x1)]) 27 x2) 28 x3) (looko ([2, 3, 19, 33].map fun n => (n, o n)))) 7 (some 7) ∧ V.refsL 7 [V.d (.str []), V.d (.str []), V.d (.int .i64 0), V.d (.int .i64 0), V.d (.int .i64 0), V.d (.int .i64 0)] = false ∧
storeK (V.ptr 7 0) (cellsV x3) 6 (upd (looko ([2, 3, 19, 33].map fun n => (n, o n))) 7 (some (Ob.box [V.d (.str []), V.d (.str []), V.d (.int .i64 0), V.d (.int .i64 0), V.d (.int .i64 0), V.d (.int .i64 0)]))) (fun m4 ob5 =>
wpB C I R_c3 (St.mk (look [(2, s 2), (3, s 3), (7, (V.ptr 7 0)), (23, s 23), (24, s 24), (25, s 25)]) (looko ([2, 3, 7, 19, 33].map fun n => (n, (upd (upd (looko ([2, 3, 19, 33].map fun n => (n, o n))) 7 (some (Ob.box [V.d (.str []), V.d (.str []), V.d (.int .i64 0), V.d (.int .i64 0), V.d (.int .i64 0), V.d (.int .i64 0)]))) m4 (some ob5)) n)))) (blockK 3 [2, 3, 23, 24, 25] (some [2, 3, 19, 33]) (seqK (fun st => wpB C I R_c4 st (seqK (fun s => wpB C I R_l1 s Q) Q)) (seqK (fun s => wpB C I R_l1 s Q) Q))))))))
 (Q (.exit 2) (St.mk (look [(2, s 2), (3, s 3), (23, s 23), (24, s 24), (25, s 25), (26, x1)]) (looko ([2, 3, 19, 33].map fun n => (n, o n))))))) : wpB C I R_l1 (St.mk s o) Q := w_loopC hL h
theorem g_law08_ref_c5_sh : wpB C I (g_law08_ref.c5F R_l1) (St.mk s o) Q =
 (wpB C I R_l1 (St.mk s o) (blockK 2 [2, 3] (some [2, 3, 19, 33]) Q)) := rfl
@[instance] theorem g_law08_ref_c5_u : UnfAt (wpB C I g_law08_ref.c5 (St.mk s o) Q) g_law08_ref_c5_sh := Unf.of _
theorem g_law08_ref_c6_sh : wpB C I (g_law08_ref.c6) (St.mk s o) Q =
 (demand (loadV o (some 2) (s 3)) (fun x1 =>
storeK (s 2) (cellsV x1) 2 o (fun m2 ob3 =>
Q .ret (St.mk (look [(2, s 2)]) (looko ([2, 19, 33].map fun n => (n, (upd o m2 (some ob3)) n))))))) := rfl
@[instance] theorem g_law08_ref_c6_u : UnfAt (wpB C I g_law08_ref.c6 (St.mk s o) Q) g_law08_ref_c6_sh := Unf.of _
theorem g_law08_ref_c7_sh : wpB C I (g_law08_ref.c7F R_c5 R_c6) (St.mk s o) Q =
 (demand (faddrV 1 (s 1)) (fun x1 =>
demand (loadV o none x1) (fun x2 =>
demand (lenV o x2) (fun x3 =>
wpB C I R_c5 (St.mk (look [(2, s 2), (3, s 3), (23, x2), (24, x3), (25, (V.d (.int .i64 0)))]) (looko ([2, 3, 19, 33].map fun n => (n, o n)))) (seqK (fun st => wpB C I R_c6 st Q) Q))))) := rfl
@[instance] theorem g_law08_ref_c7_u : UnfAt (wpB C I g_law08_ref.c7 (St.mk s o) Q) g_law08_ref_c7_sh := Unf.of _
theorem g_law08_ref_code_sh : wpB C I (g_law08_ref.codeF R_c2 R_c7) (St.mk s o) Q =
 (lstK (cellsV (s 0)) (fun c1 => c1.length = 2 ∧ ¬ I 1 ∧ Fresh (St.mk s o) 1 (some 1) ∧ V.refsL 1 c1 = false ∧
(¬ I 2 ∧ Fresh (St.mk (upd s 1 (V.ptr 1 0)) (upd o 1 (some (Ob.box c1)))) 2 (some 2) ∧ V.refsL 2 [V.cap0, V.cap0] = false ∧
(¬ I 3 ∧ Fresh (St.mk (look [(1, (V.ptr 1 0)), (2, (V.ptr 2 0))]) (looko ([1, 2, 19, 33].map fun n => (n, (upd (upd o 1 (some (Ob.box c1))) 2 (some (Ob.box [V.cap0, V.cap0]))) n)))) 3 (some 3) ∧ V.refsL 3 [V.cap0, V.cap0] = false ∧
demand (faddrV 0 (V.ptr 1 0)) (fun x2 =>
demand (loadV (looko ([1, 2, 3, 19, 33].map fun n => (n, (upd (looko ([1, 2, 19, 33].map fun n => (n, (upd (upd o 1 (some (Ob.box c1))) 2 (some (Ob.box [V.cap0, V.cap0]))) n))) 3 (some (Ob.box [V.cap0, V.cap0]))) n))) none x2) (fun x3 =>
demand (lenV (looko ([1, 2, 3, 19, 33].map fun n => (n, (upd (looko ([1, 2, 19, 33].map fun n => (n, (upd (upd o 1 (some (Ob.box c1))) 2 (some (Ob.box [V.cap0, V.cap0]))) n))) 3 (some (Ob.box [V.cap0, V.cap0]))) n))) x3) (fun x4 =>
wpB C I R_c2 (St.mk (look [(1, (V.ptr 1 0)), (2, (V.ptr 2 0)), (3, (V.ptr 3 0)), (9, x3), (10, x4), (11, (V.d (.int .i64 0)))]) (looko ([1, 2, 3, 19, 33].map fun n => (n, (upd (looko ([1, 2, 19, 33].map fun n => (n, (upd (upd o 1 (some (Ob.box c1))) 2 (some (Ob.box [V.cap0, V.cap0]))) n))) 3 (some (Ob.box [V.cap0, V.cap0]))) n)))) (seqK (fun st => wpB C I R_c7 st Q) Q)))))))) := rfl
@[instance] theorem g_law08_ref_code_u : UnfAt (wpB C I g_law08_ref.code (St.mk s o) Q) g_law08_ref_code_sh := Unf.of _
theorem g_money_Text_c0_sh : wpB C I (g_money_Text.c0) (St.mk s o) Q =
 ((s 17) = V.undef ∧ (quietV o ((s 4) :: [(s 4)]) ∧
(s 18) = V.undef ∧ (quietV o ((s 0) :: [(s 0)]) ∧
(s 19) = V.undef ∧ (demand (binV BinOp.quo (s 0) (V.d (.int .i64 100))) (fun x3 => quietV o (x3 :: [(s 0), (V.d (.int .i64 100))]) ∧
(s 20) = V.undef ∧ (∃ x4, SoundAt C 68 ⟨[x3], fun _ => none⟩ ⟨x4, fun _ => none⟩ ∧ (∀ n, V.refs n x4 = false) ∧ quietV o (x4 :: [x3]) ∧
(s 21) = V.undef ∧ (demand (binV BinOp.add (s 4) x4) (fun x5 => quietV o (x5 :: [(s 4), x4]) ∧
(s 22) = V.undef ∧ (demand (binV BinOp.add x5 (V.d (.str [46]))) (fun x6 => quietV o (x6 :: [x5, (V.d (.str [46]))]) ∧
(s 23) = V.undef ∧ (quietV o ((s 5) :: [(s 5)]) ∧
(s 24) = V.undef ∧ (demand (slcSV (s 5) (some (V.d (.int .i64 1))) none) (fun x8 => quietV o (x8 :: [(s 5), (V.d (.int .i64 1))]) ∧
(s 25) = V.undef ∧ (demand (binV BinOp.add x6 x8) (fun x9 => quietV o (x9 :: [x6, x8]) ∧
(s 2) = V.undef ∧ (quietV o (x9 :: [x9]) ∧
(s 3) = V.undef ∧ (quietV o ((V.d (.int .i64 0)) :: [(V.d (.int .i64 0))]) ∧
Q .ret (St.mk (look [(2, x9), (3, (V.d (.int .i64 0)))]) (looko ([].map fun n => (n, o n))))))))))))))))))))) := rfl
@[instance] theorem g_money_Text_c0_u : UnfAt (wpB C I g_money_Text.c0 (St.mk s o) Q) g_money_Text_c0_sh := Unf.of _
theorem g_money_Text_c1_sh : wpB C I (g_money_Text.c1F R_c0) (St.mk s o) Q =
 (demand (binV BinOp.rem (s 0) (V.d (.int .i64 100))) (fun x1 =>
demand (binV BinOp.add (V.d (.int .i64 100)) x1) (fun x2 =>
callK C I (St.mk (upd (upd (upd s 13 (s 0)) 14 x1) 15 x2) o) (some 16) 68 [x2] (fun r3 or3 =>
wpB C I R_c0 (St.mk (look [(0, s 0), (4, s 4), (5, r3)]) (looko ([].map fun n => (n, or3 n)))) Q)))) := rfl
@[instance] theorem g_money_Text_c1_u : UnfAt (wpB C I g_money_Text.c1 (St.mk s o) Q) g_money_Text_c1_sh := Unf.of _
theorem g_money_Text_c2_sh : wpB C I (g_money_Text.c2F R_c1) (St.mk s o) Q =
 (demand (binV BinOp.lss (s 0) (V.d (.int .i64 0))) (fun x1 =>
condK x1
 (demand (unV UnOp.neg (s 0)) (fun x2 =>
wpB C I R_c1 (St.mk (look [(0, x2), (4, (V.d (.str [45])))]) (looko ([].map fun n => (n, o n)))) Q))
 (wpB C I R_c1 (St.mk (look [(0, s 0), (4, (V.d (.str []))), (10, x1)]) (looko ([].map fun n => (n, o n)))) Q))) := rfl
@[instance] theorem g_money_Text_c2_u : UnfAt (wpB C I g_money_Text.c2 (St.mk s o) Q) g_money_Text_c2_sh := Unf.of _
theorem g_money_Text_code_sh : wpB C I (g_money_Text.codeF R_c2) (St.mk s o) Q =
 (callK C I (St.mk (upd (look [(0, s 0)]) 6 (s 0)) (looko ([].map fun n => (n, o n)))) (some 7) 58 [(s 0)] (fun r1 or1 =>
demand (unV UnOp.not r1) (fun x2 =>
condK x2
 (Q .ret (St.mk (look [(2, (V.d (.str []))), (3, (V.d (.int .i64 3)))]) (looko ([].map fun n => (n, or1 n)))))
 (wpB C I R_c2 (St.mk (look [(0, s 0), (8, x2)]) (looko ([].map fun n => (n, or1 n)))) Q)))) := rfl
@[instance] theorem g_money_Text_code_u : UnfAt (wpB C I g_money_Text.code (St.mk s o) Q) g_money_Text_code_sh := Unf.of _
theorem g_lex_All_o1_sh : opsB C I (g_lex_All.o1) (St.mk s o) K =
 (demand (pickV (s 18) (V.d (.bool true)) (s 22)) (fun x1 =>
K (St.mk (upd s 23 x1) o))) := rfl
@[instance] theorem g_lex_All_o1_u : UnfAt (opsB C I g_lex_All.o1 (St.mk s o) K) g_lex_All_o1_sh := Unf.of _
theorem g_lex_All_o0_sh : opsB C I (g_lex_All.o0F R_o1) (St.mk s o) K =
 (guardK (s 18) false
 (demand (idxV (s 0) (s 6)) (fun x1 =>
demand (binV BinOp.eql x1 (V.d (.int .u8 10))) (fun x2 =>
opsB C I R_o1 (St.mk (look [(0, s 0), (5, s 5), (6, s 6), (18, (V.d (D.bool false))), (22, x2)]) (looko ([55].map fun n => (n, o n)))) K)))
 (opsB C I R_o1 (St.mk (look [(0, s 0), (5, s 5), (6, s 6), (18, (V.d (D.bool true))), (22, (V.tup []))]) (looko ([55].map fun n => (n, o n)))) K)
 (opsB C I R_o1 (St.mk (look [(0, s 0), (5, s 5), (6, s 6), (18, (V.tup [])), (22, (V.tup []))]) (looko ([55].map fun n => (n, o n)))) K)) := rfl
@[instance] theorem g_lex_All_o0_u : UnfAt (opsB C I g_lex_All.o0 (St.mk s o) K) g_lex_All_o0_sh := Unf.of _
theorem g_lex_All_c0_sh : wpB C I (g_lex_All.c0) (St.mk s o) Q =
 (condK (s 23)
 (demand (binV BinOp.add (s 6) (V.d (.int .i64 1))) (fun x1 =>
Q (.exit 1000000) (St.mk (look [(0, s 0), (5, s 5), (6, x1)]) (looko ([55].map fun n => (n, o n))))))
 (Q .normal (St.mk s o))) := rfl
@[instance] theorem g_lex_All_c0_u : UnfAt (wpB C I g_lex_All.c0 (St.mk s o) Q) g_lex_All_c0_sh := Unf.of _
theorem g_lex_All_c1_sh : wpB C I (g_lex_All.c1) (St.mk s o) Q =
 (demand (binV BinOp.add (s 6) (s 8)) (fun x1 =>
Q (.exit 1000000) (St.mk (look [(0, s 0), (5, s 5), (6, x1)]) (looko ([55].map fun n => (n, o n)))))) := rfl
@[instance] theorem g_lex_All_c1_u : UnfAt (wpB C I g_lex_All.c1 (St.mk s o) Q) g_lex_All_c1_sh := Unf.of _
theorem g_lex_All_c2_sh : wpB C I (g_lex_All.c2F R_c1) (St.mk s o) Q =
 (demand (binV BinOp.add (s 6) (s 8)) (fun x1 =>
demand (slcSV (s 0) (some (s 6)) (some x1)) (fun x2 =>
demand ((buildN [V.d (.int .i64 0), V.d (.str []), V.d (.int .i64 0)] [(0, 1, (s 7)), (1, 1, x2), (2, 1, (s 6))]).map V.agg) (fun x3 =>
lstK (partsN 3 [x3]) (fun es4 =>
lstK (readD o (V.d (D.sl es4))) (fun ys5 => (∀ e ∈ ys5, e.length = 3) ∧ appK (s 5)
 (ys5.length * 32 ≤ 140737488355328 ∧ ys5.length ≤ 140737488355328 ∧ ¬ I 55 ∧ Fresh (St.mk (upd (upd (upd (upd (upd (upd (upd (upd (upd (upd (upd s 44 (s 5)) 45 (s 7)) 46 (s 0)) 47 (s 6)) 48 (s 6)) 49 (s 8)) 50 x1) 51 x2) 52 (s 6)) 53 x3) 54 (V.d (D.sl es4))) o) 55 (some 55) ∧
wpB C I R_c1 (St.mk (look [(0, s 0), (5, (V.own 55)), (6, s 6), (8, s 8)]) (looko ([55].map fun n => (n, (upd o 55 (some (Ob.row 3 ys5))) n)))) Q)
 (fun m6 => ¬ I m6 ∧ rowK (o m6) (fun z7 es8 => z7 = 3 ∧ (es8.length + ys5.length) * 32 ≤ 140737488355328 ∧ es8.length + ys5.length ≤ 140737488355328 ∧
wpB C I R_c1 (St.mk (look [(0, ((fun t => scrubV m6 (s t)) 0)), (5, (V.own m6)), (6, ((fun t => scrubV m6 (s t)) 6)), (8, ((fun t => scrubV m6 (s t)) 8))]) (looko ([55].map fun n => (n, (upd (fun n => (o n).map (Ob.scrub m6)) m6 (some (Ob.row 3 (es8 ++ ys5)))) n)))) Q)))))))) := rfl
@[instance] theorem g_lex_All_c2_u : UnfAt (wpB C I g_lex_All.c2 (St.mk s o) Q) g_lex_All_c2_sh := Unf.of _
theorem g_lex_All_c3_sh : wpB C I (g_lex_All.c3F R_c2) (St.mk s o) Q =
 (demand (binV BinOp.eql (s 7) (V.d (.int .i64 0))) (fun x1 =>
condK x1
 (Q .ret (St.mk (look [(2, (V.cap0)), (3, s 6), (4, (V.d (.int .i64 2)))]) (looko ([55].map fun n => (n, o n)))))
 (wpB C I R_c2 (St.mk (look [(0, s 0), (5, s 5), (6, s 6), (7, s 7), (8, s 8), (42, x1)]) (looko ([55].map fun n => (n, o n)))) Q))) := rfl
@[instance] theorem g_lex_All_c3_u : UnfAt (wpB C I g_lex_All.c3 (St.mk s o) Q) g_lex_All_c3_sh := Unf.of _
theorem g_lex_All_c4_sh : wpB C I (g_lex_All.c4F R_c3) (St.mk s o) Q =
 (callK C I (St.mk (upd (upd s 36 (s 0)) 37 (s 6)) o) (some 38) 104 [(s 0), (s 6)] (fun r1 or1 =>
demand (extV r1 0) (fun x2 =>
demand (extV r1 1) (fun x3 =>
wpB C I R_c3 (St.mk (look [(0, s 0), (5, s 5), (6, s 6), (7, x2), (8, x3)]) (looko ([55].map fun n => (n, or1 n)))) Q)))) := rfl
@[instance] theorem g_lex_All_c4_u : UnfAt (wpB C I g_lex_All.c4 (St.mk s o) Q) g_lex_All_c4_sh := Unf.of _
theorem g_lex_All_c5_sh : wpB C I (g_lex_All.c5F R_c4) (St.mk s o) Q =
 (demand (idxV (s 0) (s 6)) (fun x1 =>
demand (binV BinOp.eql x1 (V.d (.int .u8 35))) (fun x2 =>
condK x2
 (callK C I (St.mk (upd (upd (upd (look [(0, s 0), (5, s 5), (6, s 6), (29, x2)]) 30 (s 6)) 31 (s 0)) 32 (s 6)) (looko ([55].map fun n => (n, o n)))) (some 33) 102 [(s 0), (s 6), (V.fn 103 [])] (fun r3 or3 =>
demand (binV BinOp.add (s 6) r3) (fun x4 =>
Q (.exit 1000000) (St.mk (look [(0, s 0), (5, s 5), (6, x4)]) (looko ([55].map fun n => (n, or3 n)))))))
 (wpB C I R_c4 (St.mk (look [(0, s 0), (5, s 5), (6, s 6), (29, x2)]) (looko ([55].map fun n => (n, o n)))) Q)))) := rfl
@[instance] theorem g_lex_All_c5_u : UnfAt (wpB C I g_lex_All.c5 (St.mk s o) Q) g_lex_All_c5_sh := Unf.of _
theorem g_lex_All_c6_sh : wpB C I (g_lex_All.c6F R_o0 R_c0 R_c5) (St.mk s o) Q =
 (demand (idxV (s 0) (s 6)) (fun x1 =>
demand (binV BinOp.eql x1 (V.d (.int .u8 32))) (fun x2 =>
opsB C I R_o0 (St.mk (look [(0, s 0), (5, s 5), (6, s 6), (18, x2)]) (looko ([55].map fun n => (n, o n)))) (fun st => (seqK (fun st => wpB C I R_c0 st (seqK (fun st => wpB C I R_c5 st Q) Q)) (seqK (fun st => wpB C I R_c5 st Q) Q)) .normal (St.trim st [0, 5, 6, 23] (some [55])))))) := rfl
@[instance] theorem g_lex_All_c6_u : UnfAt (wpB C I g_lex_All.c6 (St.mk s o) Q) g_lex_All_c6_sh := Unf.of _
theorem g_lex_All_c7_sh : wpB C I (g_lex_All.c7F R_c6) (St.mk s o) Q =
 (demand (lenSV (s 0)) (fun x1 =>
demand (binV BinOp.geq (s 6) x1) (fun x2 =>
condK x2
 (Q .ret (St.mk (look [(2, s 5), (3, (V.d (.int .i64 0))), (4, (V.d (.int .i64 0)))]) (looko ([55].map fun n => (n, o n)))))
 (wpB C I R_c6 (St.mk (look [(0, s 0), (5, s 5), (6, s 6), (12, x2)]) (looko ([55].map fun n => (n, o n)))) Q)))) := rfl
@[instance] theorem g_lex_All_c7_u : UnfAt (wpB C I g_lex_All.c7 (St.mk s o) Q) g_lex_All_c7_sh := Unf.of _
theorem g_lex_All_code_sh : wpB C I (g_lex_All.codeF R_c7) (St.mk s o) Q =
 (wpB C I R_c7 (St.mk (look [(0, s 0), (5, (V.cap0)), (6, (V.d (.int .i64 0)))]) (looko ([55].map fun n => (n, (looko ([].map fun n => (n, o n))) n)))) (jumpK 0 (fun s => wpA C I (.scope 0 [0, 5, 6] (some [55]) (.seq .skip R_c7) (.seq .skip R_c7)) (s.trim [0, 5, 6] (some [55])) Q) Q)) := rfl
@[instance] theorem g_lex_All_code_u : UnfAt (wpB C I g_lex_All.code (St.mk s o) Q) g_lex_All_code_sh := Unf.of _
theorem g_tree_parser_rule_t4_sh : treeB C I g_tree_parser_rule.a0 (.one 17 .done) (St.mk s o) K =
 ((([] : List Nat) = [] ∧ (demand (pickV (s 21) (s 25) (V.d (.bool false))) (fun x1 =>
K (St.mk (upd s 26 x1) o))))) := rfl
@[instance] theorem g_tree_parser_rule_t4_u : UnfAt (treeB C I g_tree_parser_rule.a0 g_tree_parser_rule.t4 (St.mk s o) K) g_tree_parser_rule_t4_sh := Unf.of _
theorem g_tree_parser_rule_t5_sh : treeB C I g_tree_parser_rule.a0 (.one 16 R_t4) (St.mk s o) K =
 ((([] : List Nat) = [] ∧ guardK (s 21) true
 (callE C I (St.mk s o) (some 25) 155 [(s 22), (s 24)] (fun r1 or1 =>
treeB C I g_tree_parser_rule.a0 R_t4 (St.mk (upd s 25 r1) or1) K))
 (treeB C I g_tree_parser_rule.a0 R_t4 (St.mk (upd s 25 (V.tup [])) o) K)
 (treeB C I g_tree_parser_rule.a0 R_t4 (St.mk (upd s 25 (V.tup [])) o) K))) := rfl
@[instance] theorem g_tree_parser_rule_t5_u : UnfAt (treeB C I g_tree_parser_rule.a0 g_tree_parser_rule.t5 (St.mk s o) K) g_tree_parser_rule_t5_sh := Unf.of _
theorem g_tree_parser_rule_t6_sh : treeB C I g_tree_parser_rule.a0 (.one 15 R_t5) (St.mk s o) K =
 ((([] : List Nat) = [] ∧ guardK (s 21) true
 (demand (loadV o none (s 23)) (fun x1 =>
treeB C I g_tree_parser_rule.a0 R_t5 (St.mk (upd s 24 x1) o) K))
 (treeB C I g_tree_parser_rule.a0 R_t5 (St.mk (upd s 24 (V.tup [])) o) K)
 (treeB C I g_tree_parser_rule.a0 R_t5 (St.mk (upd s 24 (V.tup [])) o) K))) := rfl
@[instance] theorem g_tree_parser_rule_t6_u : UnfAt (treeB C I g_tree_parser_rule.a0 g_tree_parser_rule.t6 (St.mk s o) K) g_tree_parser_rule_t6_sh := Unf.of _
theorem g_tree_parser_rule_t7_sh : treeB C I g_tree_parser_rule.a0 (.one 14 R_t6) (St.mk s o) K =
 ((([] : List Nat) = [] ∧ guardK (s 21) true
 (demand (faddrV 1 (s 2)) (fun x1 =>
treeB C I g_tree_parser_rule.a0 R_t6 (St.mk (upd s 23 x1) o) K))
 (treeB C I g_tree_parser_rule.a0 R_t6 (St.mk (upd s 23 (V.tup [])) o) K)
 (treeB C I g_tree_parser_rule.a0 R_t6 (St.mk (upd s 23 (V.tup [])) o) K))) := rfl
@[instance] theorem g_tree_parser_rule_t7_u : UnfAt (treeB C I g_tree_parser_rule.a0 g_tree_parser_rule.t7 (St.mk s o) K) g_tree_parser_rule_t7_sh := Unf.of _
theorem g_tree_parser_rule_t8_sh : treeB C I g_tree_parser_rule.a0 (.one 13 R_t5) (St.mk s o) K =
 ((([] : List Nat) = [] ∧ guardK (s 21) true
 (callE C I (St.mk s o) (some 22) 157 [] (fun r1 or1 =>
treeB C I g_tree_parser_rule.a0 R_t5 (St.mk (upd s 22 r1) or1) K))
 (treeB C I g_tree_parser_rule.a0 R_t5 (St.mk (upd s 22 (V.tup [])) o) K)
 (treeB C I g_tree_parser_rule.a0 R_t5 (St.mk (upd s 22 (V.tup [])) o) K))) := rfl
@[instance] theorem g_tree_parser_rule_t8_u : UnfAt (treeB C I g_tree_parser_rule.a0 g_tree_parser_rule.t8 (St.mk s o) K) g_tree_parser_rule_t8_sh := Unf.of _
theorem g_tree_parser_rule_t9_sh : treeB C I g_tree_parser_rule.a0 (.one 15 R_t8) (St.mk s o) K =
 ((([] : List Nat) = [] ∧ guardK (s 21) true
 (demand (loadV o none (s 23)) (fun x1 =>
treeB C I g_tree_parser_rule.a0 R_t8 (St.mk (upd s 24 x1) o) K))
 (treeB C I g_tree_parser_rule.a0 R_t8 (St.mk (upd s 24 (V.tup [])) o) K)
 (treeB C I g_tree_parser_rule.a0 R_t8 (St.mk (upd s 24 (V.tup [])) o) K))) := rfl
@[instance] theorem g_tree_parser_rule_t9_u : UnfAt (treeB C I g_tree_parser_rule.a0 g_tree_parser_rule.t9 (St.mk s o) K) g_tree_parser_rule_t9_sh := Unf.of _
theorem g_tree_parser_rule_t10_sh : treeB C I g_tree_parser_rule.a0 (.two 13 R_t6 R_t9) (St.mk s o) K =
 ((([] : List Nat) = [] ∧ guardK (s 21) true
 (callE C I (St.mk s o) (some 22) 157 [] (fun r1 or1 =>
treeB C I g_tree_parser_rule.a0 R_t6 (St.mk (upd s 22 r1) or1) K))
 (treeB C I g_tree_parser_rule.a0 R_t6 (St.mk (upd s 22 (V.tup [])) o) K)
 (treeB C I g_tree_parser_rule.a0 R_t6 (St.mk (upd s 22 (V.tup [])) o) K)) ∧ treeB C I g_tree_parser_rule.a0 R_t9 (St.mk s o) K) := rfl
@[instance] theorem g_tree_parser_rule_t10_u : UnfAt (treeB C I g_tree_parser_rule.a0 g_tree_parser_rule.t10 (St.mk s o) K) g_tree_parser_rule_t10_sh := Unf.of _
theorem g_tree_parser_rule_t11_sh : treeB C I g_tree_parser_rule.a0 (.one 14 R_t10) (St.mk s o) K =
 ((([] : List Nat) = [] ∧ guardK (s 21) true
 (demand (faddrV 1 (s 2)) (fun x1 =>
treeB C I g_tree_parser_rule.a0 R_t10 (St.mk (upd s 23 x1) o) K))
 (treeB C I g_tree_parser_rule.a0 R_t10 (St.mk (upd s 23 (V.tup [])) o) K)
 (treeB C I g_tree_parser_rule.a0 R_t10 (St.mk (upd s 23 (V.tup [])) o) K))) := rfl
@[instance] theorem g_tree_parser_rule_t11_u : UnfAt (treeB C I g_tree_parser_rule.a0 g_tree_parser_rule.t11 (St.mk s o) K) g_tree_parser_rule_t11_sh := Unf.of _
theorem g_tree_parser_rule_t12_sh : treeB C I g_tree_parser_rule.a0 (.two 13 R_t7 R_t11) (St.mk s o) K =
 ((([] : List Nat) = [] ∧ guardK (s 21) true
 (callE C I (St.mk s o) (some 22) 157 [] (fun r1 or1 =>
treeB C I g_tree_parser_rule.a0 R_t7 (St.mk (upd s 22 r1) or1) K))
 (treeB C I g_tree_parser_rule.a0 R_t7 (St.mk (upd s 22 (V.tup [])) o) K)
 (treeB C I g_tree_parser_rule.a0 R_t7 (St.mk (upd s 22 (V.tup [])) o) K)) ∧ treeB C I g_tree_parser_rule.a0 R_t11 (St.mk s o) K) := rfl
@[instance] theorem g_tree_parser_rule_t12_u : UnfAt (treeB C I g_tree_parser_rule.a0 g_tree_parser_rule.t12 (St.mk s o) K) g_tree_parser_rule_t12_sh := Unf.of _
theorem g_tree_parser_rule_t13_sh : treeB C I g_tree_parser_rule.a0 (.one 12 R_t12) (St.mk s o) K =
 ((([] : List Nat) = [] ∧ (treeB C I g_tree_parser_rule.a0 R_t12 (St.mk (upd s 21 (s 20)) o) K))) := rfl
@[instance] theorem g_tree_parser_rule_t13_u : UnfAt (treeB C I g_tree_parser_rule.a0 g_tree_parser_rule.t13 (St.mk s o) K) g_tree_parser_rule_t13_sh := Unf.of _
theorem g_tree_parser_rule_t14_sh : treeB C I g_tree_parser_rule.a0 (.one 11 R_t13) (St.mk s o) K =
 ((([] : List Nat) = [] ∧ (demand (pickV (s 16) (s 19) (V.d (.bool false))) (fun x1 =>
treeB C I g_tree_parser_rule.a0 R_t13 (St.mk (upd s 20 x1) o) K)))) := rfl
@[instance] theorem g_tree_parser_rule_t14_u : UnfAt (treeB C I g_tree_parser_rule.a0 g_tree_parser_rule.t14 (St.mk s o) K) g_tree_parser_rule_t14_sh := Unf.of _
theorem g_tree_parser_rule_t15_sh : treeB C I g_tree_parser_rule.a0 (.one 10 R_t14) (St.mk s o) K =
 ((([] : List Nat) = [] ∧ guardK (s 16) true
 (demand (binV BinOp.eql (s 18) (V.d (.int .i64 1))) (fun x1 =>
treeB C I g_tree_parser_rule.a0 R_t14 (St.mk (upd s 19 x1) o) K))
 (treeB C I g_tree_parser_rule.a0 R_t14 (St.mk (upd s 19 (V.tup [])) o) K)
 (treeB C I g_tree_parser_rule.a0 R_t14 (St.mk (upd s 19 (V.tup [])) o) K))) := rfl
@[instance] theorem g_tree_parser_rule_t15_u : UnfAt (treeB C I g_tree_parser_rule.a0 g_tree_parser_rule.t15 (St.mk s o) K) g_tree_parser_rule_t15_sh := Unf.of _
theorem g_tree_parser_rule_t16_sh : treeB C I g_tree_parser_rule.a0 (.one 9 R_t15) (St.mk s o) K =
 ((([] : List Nat) = [] ∧ guardK (s 16) true
 (demand (loadV o none (s 17)) (fun x1 =>
treeB C I g_tree_parser_rule.a0 R_t15 (St.mk (upd s 18 x1) o) K))
 (treeB C I g_tree_parser_rule.a0 R_t15 (St.mk (upd s 18 (V.tup [])) o) K)
 (treeB C I g_tree_parser_rule.a0 R_t15 (St.mk (upd s 18 (V.tup [])) o) K))) := rfl
@[instance] theorem g_tree_parser_rule_t16_u : UnfAt (treeB C I g_tree_parser_rule.a0 g_tree_parser_rule.t16 (St.mk s o) K) g_tree_parser_rule_t16_sh := Unf.of _
theorem g_tree_parser_rule_t17_sh : treeB C I g_tree_parser_rule.a0 (.one 8 R_t16) (St.mk s o) K =
 ((([] : List Nat) = [] ∧ guardK (s 16) true
 (demand (faddrV 0 (s 2)) (fun x1 =>
treeB C I g_tree_parser_rule.a0 R_t16 (St.mk (upd s 17 x1) o) K))
 (treeB C I g_tree_parser_rule.a0 R_t16 (St.mk (upd s 17 (V.tup [])) o) K)
 (treeB C I g_tree_parser_rule.a0 R_t16 (St.mk (upd s 17 (V.tup [])) o) K))) := rfl
@[instance] theorem g_tree_parser_rule_t17_u : UnfAt (treeB C I g_tree_parser_rule.a0 g_tree_parser_rule.t17 (St.mk s o) K) g_tree_parser_rule_t17_sh := Unf.of _
theorem g_tree_parser_rule_t18_sh : treeB C I g_tree_parser_rule.a0 (.one 7 R_t17) (St.mk s o) K =
 ((([] : List Nat) = [] ∧ (treeB C I g_tree_parser_rule.a0 R_t17 (St.mk (upd s 16 (s 15)) o) K))) := rfl
@[instance] theorem g_tree_parser_rule_t18_u : UnfAt (treeB C I g_tree_parser_rule.a0 g_tree_parser_rule.t18 (St.mk s o) K) g_tree_parser_rule_t18_sh := Unf.of _
theorem g_tree_parser_rule_t19_sh : treeB C I g_tree_parser_rule.a0 (.one 6 R_t18) (St.mk s o) K =
 ((([] : List Nat) = [] ∧ (demand (binV BinOp.geq (s 14) (V.d (.int .i64 60))) (fun x1 =>
treeB C I g_tree_parser_rule.a0 R_t18 (St.mk (upd s 15 x1) o) K)))) := rfl
@[instance] theorem g_tree_parser_rule_t19_u : UnfAt (treeB C I g_tree_parser_rule.a0 g_tree_parser_rule.t19 (St.mk s o) K) g_tree_parser_rule_t19_sh := Unf.of _
theorem g_tree_parser_rule_t20_sh : treeB C I g_tree_parser_rule.a0 (.one 5 R_t19) (St.mk s o) K =
 ((([] : List Nat) = [] ∧ (demand (lenV o (s 13)) (fun x1 =>
treeB C I g_tree_parser_rule.a0 R_t19 (St.mk (upd s 14 x1) o) K)))) := rfl
@[instance] theorem g_tree_parser_rule_t20_u : UnfAt (treeB C I g_tree_parser_rule.a0 g_tree_parser_rule.t20 (St.mk s o) K) g_tree_parser_rule_t20_sh := Unf.of _
theorem g_tree_parser_rule_t21_sh : treeB C I g_tree_parser_rule.a0 (.one 4 R_t20) (St.mk s o) K =
 ((([] : List Nat) = [] ∧ (demand (loadV o none (s 12)) (fun x1 =>
treeB C I g_tree_parser_rule.a0 R_t20 (St.mk (upd s 13 x1) o) K)))) := rfl
@[instance] theorem g_tree_parser_rule_t21_u : UnfAt (treeB C I g_tree_parser_rule.a0 g_tree_parser_rule.t21 (St.mk s o) K) g_tree_parser_rule_t21_sh := Unf.of _
theorem g_tree_parser_rule_i3_sh : drawB C I g_tree_parser_rule.a0 (3 :: []) R_t21 (St.mk s o) K =
 ((s 12) = V.undef ∧ (demand (faddrV 0 (s 11)) (fun x1 => quietV o (x1 :: [(s 11)]) ∧
treeB C I g_tree_parser_rule.a0 R_t21 (St.mk (upd s 12 x1) o) K))) := rfl
@[instance] theorem g_tree_parser_rule_i3_u : UnfAt (drawB C I g_tree_parser_rule.a0 g_tree_parser_rule.i3 g_tree_parser_rule.t21 (St.mk s o) K) g_tree_parser_rule_i3_sh := Unf.of _
theorem g_tree_parser_rule_i2_sh : drawB C I g_tree_parser_rule.a0 (2 :: R_i3) R_t21 (St.mk s o) K =
 ((s 11) = V.undef ∧ (demand (faddrV 3 (s 10)) (fun x1 => quietV o (x1 :: [(s 10)]) ∧
drawB C I g_tree_parser_rule.a0 R_i3 R_t21 (St.mk (upd s 11 x1) o) K))) := rfl
@[instance] theorem g_tree_parser_rule_i2_u : UnfAt (drawB C I g_tree_parser_rule.a0 g_tree_parser_rule.i2 g_tree_parser_rule.t21 (St.mk s o) K) g_tree_parser_rule_i2_sh := Unf.of _
theorem g_tree_parser_rule_i1_sh : drawB C I g_tree_parser_rule.a0 (1 :: R_i2) R_t21 (St.mk s o) K =
 ((s 10) = V.undef ∧ (demand (nilcV (s 9)) (fun x1 => quietV o (x1 :: [(s 9)]) ∧
drawB C I g_tree_parser_rule.a0 R_i2 R_t21 (St.mk (upd s 10 x1) o) K))) := rfl
@[instance] theorem g_tree_parser_rule_i1_u : UnfAt (drawB C I g_tree_parser_rule.a0 g_tree_parser_rule.i1 g_tree_parser_rule.t21 (St.mk s o) K) g_tree_parser_rule_i1_sh := Unf.of _
theorem g_tree_parser_rule_c0_sh : wpB C I (g_tree_parser_rule.c0) (St.mk s o) Q =
 (condK (s 26)
 (callK C I (St.mk (upd s 27 (s 0)) o) (some 28) 218 [(s 0), (V.d (.int .i64 9))] (fun r1 or1 =>
Q .ret (St.mk (look []) or1)))
 (Q .normal (St.mk s o))) := rfl
@[instance] theorem g_tree_parser_rule_c0_u : UnfAt (wpB C I g_tree_parser_rule.c0 (St.mk s o) Q) g_tree_parser_rule_c0_sh := Unf.of _
theorem g_tree_parser_rule_o23_sh : opsB C I (g_tree_parser_rule.o23) (St.mk s o) K =
 (demand (pickV (s 44) (V.d (.bool true)) (s 48)) (fun x1 =>
K (St.mk (upd s 49 x1) o))) := rfl
@[instance] theorem g_tree_parser_rule_o23_u : UnfAt (opsB C I g_tree_parser_rule.o23 (St.mk s o) K) g_tree_parser_rule_o23_sh := Unf.of _
theorem g_tree_parser_rule_o22_sh : opsB C I (g_tree_parser_rule.o22F R_o23) (St.mk s o) K =
 (guardK (s 44) false
 (demand (faddrV 1 (s 5)) (fun x1 =>
demand (loadV o none x1) (fun x2 =>
callK C I (St.mk (upd (upd (upd (upd (upd s 44 (V.d (D.bool false))) 45 x1) 44 (V.d (D.bool false))) 46 x2) 44 (V.d (D.bool false))) o) (some 47) 158 [x2] (fun r3 or3 =>
demand (unV UnOp.not r3) (fun x4 =>
opsB C I R_o23 (St.mk (look [(0, s 0), (3, s 3), (5, s 5), (44, (V.d (D.bool false))), (48, x4)]) or3) K)))))
 (opsB C I R_o23 (St.mk (look [(0, s 0), (3, s 3), (5, s 5), (44, (V.d (D.bool true))), (48, (V.tup []))]) o) K)
 (opsB C I R_o23 (St.mk (look [(0, s 0), (3, s 3), (5, s 5), (44, (V.tup [])), (48, (V.tup []))]) o) K)) := rfl
@[instance] theorem g_tree_parser_rule_o22_u : UnfAt (opsB C I g_tree_parser_rule.o22 (St.mk s o) K) g_tree_parser_rule_o22_sh := Unf.of _
theorem g_tree_parser_rule_c1_sh : wpB C I (g_tree_parser_rule.c1) (St.mk s o) Q =
 (condK (s 49)
 (callK C I (St.mk (upd s 50 (s 0)) o) (some 51) 218 [(s 0), (V.d (.int .i64 2))] (fun r1 or1 =>
Q .ret (St.mk (look []) or1)))
 (Q .normal (St.mk s o))) := rfl
@[instance] theorem g_tree_parser_rule_c1_u : UnfAt (wpB C I g_tree_parser_rule.c1 (St.mk s o) Q) g_tree_parser_rule_c1_sh := Unf.of _
theorem g_tree_parser_rule_t32_sh : treeB C I g_tree_parser_rule.a24 (.one 16 .done) (St.mk s o) K =
 ((([] : List Nat) = [] ∧ (storeK (s 80) (cellsV (s 77)) 1 o (fun m1 ob2 =>
K (St.mk s (upd o m1 (some ob2))))))) := rfl
@[instance] theorem g_tree_parser_rule_t32_u : UnfAt (treeB C I g_tree_parser_rule.a24 g_tree_parser_rule.t32 (St.mk s o) K) g_tree_parser_rule_t32_sh := Unf.of _
theorem g_tree_parser_rule_t33_sh : treeB C I g_tree_parser_rule.a24 (.one 15 R_t32) (St.mk s o) K =
 ((([] : List Nat) = [] ∧ (demand (faddrV 0 (s 79)) (fun x1 =>
treeB C I g_tree_parser_rule.a24 R_t32 (St.mk (upd s 80 x1) o) K)))) := rfl
@[instance] theorem g_tree_parser_rule_t33_u : UnfAt (treeB C I g_tree_parser_rule.a24 g_tree_parser_rule.t33 (St.mk s o) K) g_tree_parser_rule_t33_sh := Unf.of _
theorem g_tree_parser_rule_t34_sh : treeB C I g_tree_parser_rule.a24 (.one 14 R_t33) (St.mk s o) K =
 ((([] : List Nat) = [] ∧ (demand (faddrV 3 (s 78)) (fun x1 =>
treeB C I g_tree_parser_rule.a24 R_t33 (St.mk (upd s 79 x1) o) K)))) := rfl
@[instance] theorem g_tree_parser_rule_t34_u : UnfAt (treeB C I g_tree_parser_rule.a24 g_tree_parser_rule.t34 (St.mk s o) K) g_tree_parser_rule_t34_sh := Unf.of _
theorem g_tree_parser_rule_t35_sh : treeB C I g_tree_parser_rule.a24 (.one 13 R_t34) (St.mk s o) K =
 ((([] : List Nat) = [] ∧ (demand (nilcV (s 65)) (fun x1 =>
treeB C I g_tree_parser_rule.a24 R_t34 (St.mk (upd s 78 x1) o) K)))) := rfl
@[instance] theorem g_tree_parser_rule_t35_u : UnfAt (treeB C I g_tree_parser_rule.a24 g_tree_parser_rule.t35 (St.mk s o) K) g_tree_parser_rule_t35_sh := Unf.of _
theorem g_tree_parser_rule_t36_sh : treeB C I g_tree_parser_rule.a24 (.one 12 R_t35) (St.mk s o) K =
 ((([] : List Nat) = [] ∧ (lstK (readD o (s 76)) (fun ys1 => (∀ e ∈ ys1, e.length = 3) ∧ appK (s 70)
 (ys1.length * 40 ≤ 140737488355328 ∧ ys1.length ≤ 140737488355328 ∧ ¬ I 77 ∧ Fresh (St.mk s o) 77 (some 77) ∧
treeB C I g_tree_parser_rule.a24 R_t35 (St.mk (upd s 77 (V.own 77)) (upd o 77 (some (Ob.row 3 ys1)))) K)
 (fun m2 => ¬ I m2 ∧ rowK (o m2) (fun z3 es4 => z3 = 3 ∧ (es4.length + ys1.length) * 40 ≤ 140737488355328 ∧ es4.length + ys1.length ≤ 140737488355328 ∧
treeB C I g_tree_parser_rule.a24 R_t35 (St.mk (upd (fun t => scrubV m2 (s t)) 77 (V.own m2)) (upd (fun n => (o n).map (Ob.scrub m2)) m2 (some (Ob.row 3 (es4 ++ ys1))))) K)))))) := rfl
@[instance] theorem g_tree_parser_rule_t36_u : UnfAt (treeB C I g_tree_parser_rule.a24 g_tree_parser_rule.t36 (St.mk s o) K) g_tree_parser_rule_t36_sh := Unf.of _
theorem g_tree_parser_rule_t37_sh : treeB C I g_tree_parser_rule.a24 (.one 11 R_t36) (St.mk s o) K =
 ((([] : List Nat) = [] ∧ (lstK (partsN 3 [(s 75)]) (fun es1 =>
treeB C I g_tree_parser_rule.a24 R_t36 (St.mk (upd s 76 (V.d (D.sl es1))) o) K)))) := rfl
@[instance] theorem g_tree_parser_rule_t37_u : UnfAt (treeB C I g_tree_parser_rule.a24 g_tree_parser_rule.t37 (St.mk s o) K) g_tree_parser_rule_t37_sh := Unf.of _
theorem g_tree_parser_rule_t38_sh : treeB C I g_tree_parser_rule.a24 (.one 10 R_t37) (St.mk s o) K =
 ((([] : List Nat) = [] ∧ (demand ((buildN [V.d (.str []), V.d (.str []), V.d (.int .i64 0)] [(0, 1, (s 71)), (1, 1, (s 73)), (2, 1, (s 74))]).map V.agg) (fun x1 =>
treeB C I g_tree_parser_rule.a24 R_t37 (St.mk (upd s 75 x1) o) K)))) := rfl
@[instance] theorem g_tree_parser_rule_t38_u : UnfAt (treeB C I g_tree_parser_rule.a24 g_tree_parser_rule.t38 (St.mk s o) K) g_tree_parser_rule_t38_sh := Unf.of _
theorem g_tree_parser_rule_t39_sh : treeB C I g_tree_parser_rule.a24 (.one 8 R_t38) (St.mk s o) K =
 ((([] : List Nat) = [] ∧ (demand (loadV o none (s 72)) (fun x1 =>
treeB C I g_tree_parser_rule.a24 R_t38 (St.mk (upd s 73 x1) o) K)))) := rfl
@[instance] theorem g_tree_parser_rule_t39_u : UnfAt (treeB C I g_tree_parser_rule.a24 g_tree_parser_rule.t39 (St.mk s o) K) g_tree_parser_rule_t39_sh := Unf.of _
theorem g_tree_parser_rule_t40_sh : treeB C I g_tree_parser_rule.a24 (.one 5 R_t36) (St.mk s o) K =
 ((([] : List Nat) = [] ∧ (demand (loadV o none (s 69)) (fun x1 =>
treeB C I g_tree_parser_rule.a24 R_t36 (St.mk (upd s 70 x1) o) K)))) := rfl
@[instance] theorem g_tree_parser_rule_t40_u : UnfAt (treeB C I g_tree_parser_rule.a24 g_tree_parser_rule.t40 (St.mk s o) K) g_tree_parser_rule_t40_sh := Unf.of _
theorem g_tree_parser_rule_t41_sh : treeB C I g_tree_parser_rule.a24 (.one 11 R_t40) (St.mk s o) K =
 ((([] : List Nat) = [] ∧ (lstK (partsN 3 [(s 75)]) (fun es1 =>
treeB C I g_tree_parser_rule.a24 R_t40 (St.mk (upd s 76 (V.d (D.sl es1))) o) K)))) := rfl
@[instance] theorem g_tree_parser_rule_t41_u : UnfAt (treeB C I g_tree_parser_rule.a24 g_tree_parser_rule.t41 (St.mk s o) K) g_tree_parser_rule_t41_sh := Unf.of _
theorem g_tree_parser_rule_t42_sh : treeB C I g_tree_parser_rule.a24 (.two 5 R_t37 R_t41) (St.mk s o) K =
 ((([] : List Nat) = [] ∧ (demand (loadV o none (s 69)) (fun x1 =>
treeB C I g_tree_parser_rule.a24 R_t37 (St.mk (upd s 70 x1) o) K))) ∧ treeB C I g_tree_parser_rule.a24 R_t41 (St.mk s o) K) := rfl
@[instance] theorem g_tree_parser_rule_t42_u : UnfAt (treeB C I g_tree_parser_rule.a24 g_tree_parser_rule.t42 (St.mk s o) K) g_tree_parser_rule_t42_sh := Unf.of _
theorem g_tree_parser_rule_t43_sh : treeB C I g_tree_parser_rule.a24 (.one 10 R_t42) (St.mk s o) K =
 ((([] : List Nat) = [] ∧ (demand ((buildN [V.d (.str []), V.d (.str []), V.d (.int .i64 0)] [(0, 1, (s 71)), (1, 1, (s 73)), (2, 1, (s 74))]).map V.agg) (fun x1 =>
treeB C I g_tree_parser_rule.a24 R_t42 (St.mk (upd s 75 x1) o) K)))) := rfl
@[instance] theorem g_tree_parser_rule_t43_u : UnfAt (treeB C I g_tree_parser_rule.a24 g_tree_parser_rule.t43 (St.mk s o) K) g_tree_parser_rule_t43_sh := Unf.of _
theorem g_tree_parser_rule_t44_sh : treeB C I g_tree_parser_rule.a24 (.two 5 R_t38 R_t43) (St.mk s o) K =
 ((([] : List Nat) = [] ∧ (demand (loadV o none (s 69)) (fun x1 =>
treeB C I g_tree_parser_rule.a24 R_t38 (St.mk (upd s 70 x1) o) K))) ∧ treeB C I g_tree_parser_rule.a24 R_t43 (St.mk s o) K) := rfl
@[instance] theorem g_tree_parser_rule_t44_u : UnfAt (treeB C I g_tree_parser_rule.a24 g_tree_parser_rule.t44 (St.mk s o) K) g_tree_parser_rule_t44_sh := Unf.of _
theorem g_tree_parser_rule_t45_sh : treeB C I g_tree_parser_rule.a24 (.one 8 R_t44) (St.mk s o) K =
 ((([] : List Nat) = [] ∧ (demand (loadV o none (s 72)) (fun x1 =>
treeB C I g_tree_parser_rule.a24 R_t44 (St.mk (upd s 73 x1) o) K)))) := rfl
@[instance] theorem g_tree_parser_rule_t45_u : UnfAt (treeB C I g_tree_parser_rule.a24 g_tree_parser_rule.t45 (St.mk s o) K) g_tree_parser_rule_t45_sh := Unf.of _
theorem g_tree_parser_rule_t46_sh : treeB C I g_tree_parser_rule.a24 (.two 5 R_t39 R_t45) (St.mk s o) K =
 ((([] : List Nat) = [] ∧ (demand (loadV o none (s 69)) (fun x1 =>
treeB C I g_tree_parser_rule.a24 R_t39 (St.mk (upd s 70 x1) o) K))) ∧ treeB C I g_tree_parser_rule.a24 R_t45 (St.mk s o) K) := rfl
@[instance] theorem g_tree_parser_rule_t46_u : UnfAt (treeB C I g_tree_parser_rule.a24 g_tree_parser_rule.t46 (St.mk s o) K) g_tree_parser_rule_t46_sh := Unf.of _
theorem g_tree_parser_rule_i31_sh : drawB C I g_tree_parser_rule.a24 (9 :: []) R_t46 (St.mk s o) K =
 ((s 74) = V.undef ∧ (quietV o ((s 6) :: [(s 6)]) ∧
treeB C I g_tree_parser_rule.a24 R_t46 (St.mk (upd s 74 (s 6)) o) K)) := rfl
@[instance] theorem g_tree_parser_rule_i31_u : UnfAt (drawB C I g_tree_parser_rule.a24 g_tree_parser_rule.i31 g_tree_parser_rule.t46 (St.mk s o) K) g_tree_parser_rule_i31_sh := Unf.of _
theorem g_tree_parser_rule_i30_sh : drawB C I g_tree_parser_rule.a24 (7 :: R_i31) R_t46 (St.mk s o) K =
 ((s 72) = V.undef ∧ (demand (faddrV 1 (s 5)) (fun x1 => quietV o (x1 :: [(s 5)]) ∧
drawB C I g_tree_parser_rule.a24 R_i31 R_t46 (St.mk (upd s 72 x1) o) K))) := rfl
@[instance] theorem g_tree_parser_rule_i30_u : UnfAt (drawB C I g_tree_parser_rule.a24 g_tree_parser_rule.i30 g_tree_parser_rule.t46 (St.mk s o) K) g_tree_parser_rule_i30_sh := Unf.of _
theorem g_tree_parser_rule_i29_sh : drawB C I g_tree_parser_rule.a24 (6 :: R_i30) R_t46 (St.mk s o) K =
 ((s 71) = V.undef ∧ (quietV o ((s 3) :: [(s 3)]) ∧
drawB C I g_tree_parser_rule.a24 R_i30 R_t46 (St.mk (upd s 71 (s 3)) o) K)) := rfl
@[instance] theorem g_tree_parser_rule_i29_u : UnfAt (drawB C I g_tree_parser_rule.a24 g_tree_parser_rule.i29 g_tree_parser_rule.t46 (St.mk s o) K) g_tree_parser_rule_i29_sh := Unf.of _
theorem g_tree_parser_rule_i28_sh : drawB C I g_tree_parser_rule.a24 (4 :: R_i29) R_t46 (St.mk s o) K =
 ((s 69) = V.undef ∧ (demand (faddrV 0 (s 68)) (fun x1 => quietV o (x1 :: [(s 68)]) ∧
drawB C I g_tree_parser_rule.a24 R_i29 R_t46 (St.mk (upd s 69 x1) o) K))) := rfl
@[instance] theorem g_tree_parser_rule_i28_u : UnfAt (drawB C I g_tree_parser_rule.a24 g_tree_parser_rule.i28 g_tree_parser_rule.t46 (St.mk s o) K) g_tree_parser_rule_i28_sh := Unf.of _
theorem g_tree_parser_rule_i27_sh : drawB C I g_tree_parser_rule.a24 (3 :: R_i28) R_t46 (St.mk s o) K =
 ((s 68) = V.undef ∧ (demand (faddrV 3 (s 67)) (fun x1 => quietV o (x1 :: [(s 67)]) ∧
drawB C I g_tree_parser_rule.a24 R_i28 R_t46 (St.mk (upd s 68 x1) o) K))) := rfl
@[instance] theorem g_tree_parser_rule_i27_u : UnfAt (drawB C I g_tree_parser_rule.a24 g_tree_parser_rule.i27 g_tree_parser_rule.t46 (St.mk s o) K) g_tree_parser_rule_i27_sh := Unf.of _
theorem g_tree_parser_rule_i26_sh : drawB C I g_tree_parser_rule.a24 (2 :: R_i27) R_t46 (St.mk s o) K =
 ((s 67) = V.undef ∧ (demand (nilcV (s 66)) (fun x1 => quietV o (x1 :: [(s 66)]) ∧
drawB C I g_tree_parser_rule.a24 R_i27 R_t46 (St.mk (upd s 67 x1) o) K))) := rfl
@[instance] theorem g_tree_parser_rule_i26_u : UnfAt (drawB C I g_tree_parser_rule.a24 g_tree_parser_rule.i26 g_tree_parser_rule.t46 (St.mk s o) K) g_tree_parser_rule_i26_sh := Unf.of _
theorem g_tree_parser_rule_i25_sh : drawB C I g_tree_parser_rule.a24 (1 :: R_i26) R_t46 (St.mk s o) K =
 ((s 66) = V.undef ∧ (quietV o ((s 0) :: [(s 0)]) ∧
drawB C I g_tree_parser_rule.a24 R_i26 R_t46 (St.mk (upd s 66 (s 0)) o) K)) := rfl
@[instance] theorem g_tree_parser_rule_i25_u : UnfAt (drawB C I g_tree_parser_rule.a24 g_tree_parser_rule.i25 g_tree_parser_rule.t46 (St.mk s o) K) g_tree_parser_rule_i25_sh := Unf.of _
theorem g_tree_parser_rule_c2_sh : wpB C I (g_tree_parser_rule.c2F R_i25 R_t46) (St.mk s o) Q =
 (callK C I (St.mk (upd s 59 (s 0)) o) (some 60) 220 [(s 0), (V.d (.str [61]))] (fun r1 or1 =>
callK C I (St.mk (upd (look [(0, s 0), (3, s 3), (5, s 5)]) 61 (s 0)) or1) (some 62) 221 [(s 0), (V.d (.int .i64 1))] (fun r2 or2 =>
callK C I (St.mk (upd (look [(0, s 0), (3, s 3), (5, s 5), (6, r2)]) 63 (s 0)) or2) (some 64) 220 [(s 0), (V.d (.str [59]))] (fun r3 or3 =>
V.undef = V.undef ∧ (quietV or3 ((s 0) :: [(s 0)]) ∧
drawB C I g_tree_parser_rule.a24 R_i25 R_t46 (St.mk (upd (look [(0, s 0), (3, s 3), (5, s 5), (6, r2)]) 65 (s 0)) or3) (fun st => Q .normal (St.trim st [] none))))))) := rfl
@[instance] theorem g_tree_parser_rule_c2_u : UnfAt (wpB C I g_tree_parser_rule.c2 (St.mk s o) Q) g_tree_parser_rule_c2_sh := Unf.of _
theorem g_tree_parser_rule_c3_sh : wpB C I (g_tree_parser_rule.c3F R_c2) (St.mk s o) Q =
 (demand (nilcV (s 0)) (fun x1 =>
demand (faddrV 2 x1) (fun x2 =>
demand (loadV o none x2) (fun x3 =>
demand (binV BinOp.add x3 (V.d (.int .i64 1))) (fun x4 =>
demand (nilcV (s 0)) (fun x5 =>
demand (faddrV 2 x5) (fun x6 =>
storeK x6 (cellsV x4) 1 o (fun m7 ob8 =>
wpB C I R_c2 (St.mk (look [(0, s 0), (3, s 3), (5, s 5)]) (upd o m7 (some ob8))) Q)))))))) := rfl
@[instance] theorem g_tree_parser_rule_c3_u : UnfAt (wpB C I g_tree_parser_rule.c3 (St.mk s o) Q) g_tree_parser_rule_c3_sh := Unf.of _
theorem g_tree_parser_rule_c4_sh : wpB C I (g_tree_parser_rule.c4F R_o22 R_c1 R_c3) (St.mk s o) Q =
 (demand (faddrV 0 (s 5)) (fun x1 =>
demand (loadV o none x1) (fun x2 =>
demand (binV BinOp.neq x2 (V.d (.int .i64 1))) (fun x3 =>
opsB C I R_o22 (St.mk (look [(0, s 0), (3, s 3), (5, s 5), (44, x3)]) o) (fun st => (seqK (fun st => wpB C I R_c1 st (seqK (fun st => wpB C I R_c3 st Q) Q)) (seqK (fun st => wpB C I R_c3 st Q) Q)) .normal (St.trim st [0, 3, 5, 49] none)))))) := rfl
@[instance] theorem g_tree_parser_rule_c4_u : UnfAt (wpB C I g_tree_parser_rule.c4 (St.mk s o) Q) g_tree_parser_rule_c4_sh := Unf.of _
theorem g_tree_parser_rule_c5_sh : wpB C I (g_tree_parser_rule.c5F R_c4) (St.mk s o) Q =
 (callK C I (St.mk (upd s 39 (s 0)) o) (some 40) 217 [(s 0)] (fun r1 or1 =>
(¬ I 5 ∧ Fresh (St.mk (upd (upd s 39 (s 0)) 40 r1) or1) 5 (some 5) ∧ V.refsL 5 [V.d (.int .i64 0), V.d (.str []), V.d (.int .i64 0)] = false ∧
storeK (V.ptr 5 0) (cellsV r1) 3 (upd or1 5 (some (Ob.box [V.d (.int .i64 0), V.d (.str []), V.d (.int .i64 0)]))) (fun m2 ob3 =>
wpB C I R_c4 (St.mk (look [(0, s 0), (3, s 3), (5, (V.ptr 5 0))]) (upd (upd or1 5 (some (Ob.box [V.d (.int .i64 0), V.d (.str []), V.d (.int .i64 0)]))) m2 (some ob3))) Q)))) := rfl
@[instance] theorem g_tree_parser_rule_c5_u : UnfAt (wpB C I g_tree_parser_rule.c5 (St.mk s o) Q) g_tree_parser_rule_c5_sh := Unf.of _
theorem g_tree_parser_rule_c6_sh : wpB C I (g_tree_parser_rule.c6F R_c5) (St.mk s o) Q =
 (demand (unV UnOp.not (s 4)) (fun x1 =>
condK x1
 (callK C I (St.mk (upd (look [(0, s 0), (3, s 3), (36, x1)]) 37 (s 0)) o) (some 38) 218 [(s 0), (V.d (.int .i64 2))] (fun r2 or2 =>
Q .ret (St.mk (look []) or2)))
 (wpB C I R_c5 (St.mk (look [(0, s 0), (3, s 3), (36, x1)]) o) Q))) := rfl
@[instance] theorem g_tree_parser_rule_c6_u : UnfAt (wpB C I g_tree_parser_rule.c6 (St.mk s o) Q) g_tree_parser_rule_c6_sh := Unf.of _
theorem g_tree_parser_rule_c7_sh : wpB C I (g_tree_parser_rule.c7F R_c6) (St.mk s o) Q =
 (callK C I (St.mk (upd s 30 (s 0)) o) (some 31) 157 [] (fun r1 or1 =>
callK C I (St.mk (upd (upd s 30 (s 0)) 31 r1) or1) (some 32) 219 [(s 0), r1] (fun r2 or2 =>
demand (extV r2 0) (fun x3 =>
demand (extV r2 1) (fun x4 =>
wpB C I R_c6 (St.mk (look [(0, s 0), (3, x3), (4, x4)]) or2) Q))))) := rfl
@[instance] theorem g_tree_parser_rule_c7_u : UnfAt (wpB C I g_tree_parser_rule.c7 (St.mk s o) Q) g_tree_parser_rule_c7_sh := Unf.of _
theorem g_tree_parser_rule_c8_sh : wpB C I (g_tree_parser_rule.c8F R_i1 R_t21 R_c0 R_c7) (St.mk s o) Q =
 ((s 9) = V.undef ∧ (quietV o ((s 0) :: [(s 0)]) ∧
drawB C I g_tree_parser_rule.a0 R_i1 R_t21 (St.mk (upd s 9 (s 0)) o) (fun st => (seqK (fun st => wpB C I R_c0 st (seqK (fun st => wpB C I R_c7 st Q) Q)) (seqK (fun st => wpB C I R_c7 st Q) Q)) .normal (St.trim st [0, 26] none)))) := rfl
@[instance] theorem g_tree_parser_rule_c8_u : UnfAt (wpB C I g_tree_parser_rule.c8 (St.mk s o) Q) g_tree_parser_rule_c8_sh := Unf.of _
theorem g_tree_parser_rule_code_sh : wpB C I (g_tree_parser_rule.codeF R_c8) (St.mk s o) Q =
 (callK C I (St.mk (upd s 7 (s 0)) o) (some 8) 217 [(s 0)] (fun r1 or1 =>
(¬ I 2 ∧ Fresh (St.mk (upd (upd s 7 (s 0)) 8 r1) or1) 2 (some 2) ∧ V.refsL 2 [V.d (.int .i64 0), V.d (.str []), V.d (.int .i64 0)] = false ∧
storeK (V.ptr 2 0) (cellsV r1) 3 (upd or1 2 (some (Ob.box [V.d (.int .i64 0), V.d (.str []), V.d (.int .i64 0)]))) (fun m2 ob3 =>
wpB C I R_c8 (St.mk (look [(0, s 0), (2, (V.ptr 2 0))]) (upd (upd or1 2 (some (Ob.box [V.d (.int .i64 0), V.d (.str []), V.d (.int .i64 0)]))) m2 (some ob3))) Q)))) := rfl
@[instance] theorem g_tree_parser_rule_code_u : UnfAt (wpB C I g_tree_parser_rule.code (St.mk s o) Q) g_tree_parser_rule_code_sh := Unf.of _
theorem g_ref07_All_o1_sh : opsB C I (g_ref07_All.o1) (St.mk s o) K =
 (demand (pickV (s 21) (V.d (.bool true)) (s 23)) (fun x1 =>
K (St.mk (upd (upd s 24 x1) 18 x1) o))) := rfl
@[instance] theorem g_ref07_All_o1_u : UnfAt (opsB C I g_ref07_All.o1 (St.mk s o) K) g_ref07_All_o1_sh := Unf.of _
theorem g_ref07_All_o0_sh : opsB C I (g_ref07_All.o0F R_o1) (St.mk s o) K =
 (guardK (s 21) false
 (demand (binV BinOp.eql (s 6) (V.d (.int .u8 10))) (fun x1 =>
opsB C I R_o1 (St.mk (look [(0, s 0), (4, s 4), (5, s 5), (6, s 6), (7, s 7), (8, s 8), (21, (V.d (D.bool false))), (23, x1)]) (looko ([110].map fun n => (n, o n)))) K))
 (opsB C I R_o1 (St.mk (look [(0, s 0), (4, s 4), (5, s 5), (6, s 6), (7, s 7), (8, s 8), (21, (V.d (D.bool true))), (23, (V.tup []))]) (looko ([110].map fun n => (n, o n)))) K)
 (opsB C I R_o1 (St.mk (look [(0, s 0), (4, s 4), (5, s 5), (6, s 6), (7, s 7), (8, s 8), (21, (V.tup [])), (23, (V.tup []))]) (looko ([110].map fun n => (n, o n)))) K)) := rfl
@[instance] theorem g_ref07_All_o0_u : UnfAt (opsB C I g_ref07_All.o0 (St.mk s o) K) g_ref07_All_o0_sh := Unf.of _
theorem g_ref07_All_o3_sh : opsB C I (g_ref07_All.o3) (St.mk s o) K =
 (demand (pickV (s 32) (s 36) (V.d (.bool false))) (fun x1 =>
K (St.mk (upd s 37 x1) o))) := rfl
@[instance] theorem g_ref07_All_o3_u : UnfAt (opsB C I g_ref07_All.o3 (St.mk s o) K) g_ref07_All_o3_sh := Unf.of _
theorem g_ref07_All_o2_sh : opsB C I (g_ref07_All.o2F R_o3) (St.mk s o) K =
 (guardK (s 32) true
 (demand (idxV (s 0) (s 7)) (fun x1 =>
demand (binV BinOp.neq x1 (V.d (.int .u8 10))) (fun x2 =>
opsB C I R_o3 (St.mk (look [(0, s 0), (4, s 4), (5, s 5), (7, s 7), (32, (V.d (D.bool true))), (36, x2)]) (looko ([110].map fun n => (n, o n)))) K)))
 (opsB C I R_o3 (St.mk (look [(0, s 0), (4, s 4), (5, s 5), (7, s 7), (32, (V.d (D.bool false))), (36, (V.tup []))]) (looko ([110].map fun n => (n, o n)))) K)
 (opsB C I R_o3 (St.mk (look [(0, s 0), (4, s 4), (5, s 5), (7, s 7), (32, (V.tup [])), (36, (V.tup []))]) (looko ([110].map fun n => (n, o n)))) K)) := rfl
@[instance] theorem g_ref07_All_o2_u : UnfAt (opsB C I g_ref07_All.o2 (St.mk s o) K) g_ref07_All_o2_sh := Unf.of _
theorem g_ref07_All_c0_sh : wpB C I (g_ref07_All.c0) (St.mk s o) Q =
 (condK (s 37)
 (Q .normal (St.mk s o))
 (Q (.exit 3) (St.mk s o))) := rfl
@[instance] theorem g_ref07_All_c0_u : UnfAt (wpB C I g_ref07_All.c0 (St.mk s o) Q) g_ref07_All_c0_sh := Unf.of _
theorem g_ref07_All_c1_sh : wpB C I (g_ref07_All.c1) (St.mk s o) Q =
 (demand (binV BinOp.add (s 7) (V.d (.int .i64 1))) (fun x1 =>
Q .normal (St.mk (look [(0, s 0), (4, s 4), (5, s 5), (7, x1)]) (looko ([110].map fun n => (n, o n)))))) := rfl
@[instance] theorem g_ref07_All_c1_u : UnfAt (wpB C I g_ref07_All.c1 (St.mk s o) Q) g_ref07_All_c1_sh := Unf.of _
theorem g_ref07_All_l1_sh (hL : R_l1 = g_ref07_All.l1F R_o2 R_c0 R_c1)
 (h : demand (lenSV (s 0)) (fun x1 =>
demand (binV BinOp.lss (s 7) x1) (fun x2 =>
opsB C I R_o2 (St.mk (look [(0, s 0), (4, s 4), (5, s 5), (7, s 7), (32, x2)]) (looko ([110].map fun n => (n, o n)))) (fun st => (seqK (fun st => wpB C I R_c0 st (seqK (fun st => wpB C I R_c1 st (seqK (fun s => wpB C I R_l1 s Q) Q)) (seqK (fun s => wpB C I R_l1 s Q) Q))) (seqK (fun st => wpB C I R_c1 st (seqK (fun s => wpB C I R_l1 s Q) Q)) (seqK (fun s => wpB C I R_l1 s Q) Q))) .normal (St.trim st [0, 4, 5, 7, 37] (some [110])))))) : wpB C I R_l1 (St.mk s o) Q := w_loopC hL h
theorem g_ref07_All_c2_sh : wpB C I (g_ref07_All.c2) (St.mk s o) Q =
 (Q .normal (St.mk (look [(0, s 0), (4, s 4), (5, s 5), (7, s 7), (8, (V.d (.int .i64 (-1))))]) (looko ([110].map fun n => (n, o n))))) := rfl
@[instance] theorem g_ref07_All_c2_u : UnfAt (wpB C I g_ref07_All.c2 (St.mk s o) Q) g_ref07_All_c2_sh := Unf.of _
theorem g_ref07_All_c3_sh : wpB C I (g_ref07_All.c3) (St.mk s o) Q =
 (demand (binV BinOp.sub (s 7) (s 5)) (fun x1 =>
demand (binV BinOp.lss x1 (V.d (.int .i64 13))) (fun x2 =>
condK x2
 (Q .normal (St.mk (look [(0, s 0), (4, s 4), (5, s 5), (7, s 7), (8, (V.d (.int .i64 1)))]) (looko ([110].map fun n => (n, o n)))))
 (Q .normal (St.mk (look [(0, s 0), (4, s 4), (5, s 5), (7, s 7), (8, s 8), (49, x2)]) (looko ([110].map fun n => (n, o n)))))))) := rfl
@[instance] theorem g_ref07_All_c3_u : UnfAt (wpB C I g_ref07_All.c3 (St.mk s o) Q) g_ref07_All_c3_sh := Unf.of _
theorem g_ref07_All_c4_sh : wpB C I (g_ref07_All.c4) (St.mk s o) Q =
 (demand (slcSV (s 0) (some (s 5)) (some (s 7))) (fun x1 =>
callK C I (St.mk (upd (upd (upd (upd s 56 (s 0)) 57 (s 5)) 58 (s 7)) 59 x1) o) (some 60) 98 [x1] (fun r2 or2 =>
Q .normal (St.mk (look [(0, s 0), (4, s 4), (5, s 5), (7, s 7), (8, r2)]) (looko ([110].map fun n => (n, or2 n))))))) := rfl
@[instance] theorem g_ref07_All_c4_u : UnfAt (wpB C I g_ref07_All.c4 (St.mk s o) Q) g_ref07_All_c4_sh := Unf.of _
theorem g_ref07_All_o13_sh : opsB C I (g_ref07_All.o13) (St.mk s o) K =
 (demand (pickV (s 68) (s 92) (V.d (.bool false))) (fun x1 =>
K (St.mk (upd s 93 x1) o))) := rfl
@[instance] theorem g_ref07_All_o13_u : UnfAt (opsB C I g_ref07_All.o13 (St.mk s o) K) g_ref07_All_o13_sh := Unf.of _
theorem g_ref07_All_o12_sh : opsB C I (g_ref07_All.o12F R_o13) (St.mk s o) K =
 (guardK (s 68) true
 (demand (pickV (s 83) (V.d (.bool true)) (s 91)) (fun x1 =>
opsB C I R_o13 (St.mk (look [(0, s 0), (4, s 4), (5, s 5), (7, s 7), (8, s 8), (68, (V.d (D.bool true))), (92, x1)]) (looko ([110].map fun n => (n, o n)))) K))
 (opsB C I R_o13 (St.mk (look [(0, s 0), (4, s 4), (5, s 5), (7, s 7), (8, s 8), (68, (V.d (D.bool false))), (92, (V.tup []))]) (looko ([110].map fun n => (n, o n)))) K)
 (opsB C I R_o13 (St.mk (look [(0, s 0), (4, s 4), (5, s 5), (7, s 7), (8, s 8), (68, (V.tup [])), (92, (V.tup []))]) (looko ([110].map fun n => (n, o n)))) K)) := rfl
@[instance] theorem g_ref07_All_o12_u : UnfAt (opsB C I g_ref07_All.o12 (St.mk s o) K) g_ref07_All_o12_sh := Unf.of _
theorem g_ref07_All_o11_sh : opsB C I (g_ref07_All.o11F R_o12) (St.mk s o) K =
 (guardK (s 83) false
 (demand (pickV (s 86) (s 90) (V.d (.bool false))) (fun x1 =>
opsB C I R_o12 (St.mk (look [(0, s 0), (4, s 4), (5, s 5), (7, s 7), (8, s 8), (68, s 68), (83, (V.d (D.bool false))), (91, x1)]) (looko ([110].map fun n => (n, o n)))) K))
 (opsB C I R_o12 (St.mk (look [(0, s 0), (4, s 4), (5, s 5), (7, s 7), (8, s 8), (68, s 68), (83, (V.d (D.bool true))), (91, (V.tup []))]) (looko ([110].map fun n => (n, o n)))) K)
 (opsB C I R_o12 (St.mk (look [(0, s 0), (4, s 4), (5, s 5), (7, s 7), (8, s 8), (68, s 68), (83, (V.tup [])), (91, (V.tup []))]) (looko ([110].map fun n => (n, o n)))) K)) := rfl
@[instance] theorem g_ref07_All_o11_u : UnfAt (opsB C I g_ref07_All.o11 (St.mk s o) K) g_ref07_All_o11_sh := Unf.of _
theorem g_ref07_All_o10_sh : opsB C I (g_ref07_All.o10F R_o11) (St.mk s o) K =
 (guardK (s 86) true
 (demand (idxV (s 0) (s 7)) (fun x1 =>
demand (binV BinOp.eql x1 (V.d (.int .u8 61))) (fun x2 =>
opsB C I R_o11 (St.mk (look [(0, s 0), (4, s 4), (5, s 5), (7, s 7), (8, s 8), (68, s 68), (83, s 83), (86, (V.d (D.bool true))), (90, x2)]) (looko ([110].map fun n => (n, o n)))) K)))
 (opsB C I R_o11 (St.mk (look [(0, s 0), (4, s 4), (5, s 5), (7, s 7), (8, s 8), (68, s 68), (83, s 83), (86, (V.d (D.bool false))), (90, (V.tup []))]) (looko ([110].map fun n => (n, o n)))) K)
 (opsB C I R_o11 (St.mk (look [(0, s 0), (4, s 4), (5, s 5), (7, s 7), (8, s 8), (68, s 68), (83, s 83), (86, (V.tup [])), (90, (V.tup []))]) (looko ([110].map fun n => (n, o n)))) K)) := rfl
@[instance] theorem g_ref07_All_o10_u : UnfAt (opsB C I g_ref07_All.o10 (St.mk s o) K) g_ref07_All_o10_sh := Unf.of _
theorem g_ref07_All_o9_sh : opsB C I (g_ref07_All.o9F R_o10) (St.mk s o) K =
 (guardK (s 83) false
 (demand (binV BinOp.eql (s 6) (V.d (.int .u8 62))) (fun x1 =>
opsB C I R_o10 (St.mk (look [(0, s 0), (4, s 4), (5, s 5), (7, s 7), (8, s 8), (68, s 68), (83, (V.d (D.bool false))), (86, x1)]) (looko ([110].map fun n => (n, o n)))) K))
 (opsB C I R_o10 (St.mk (look [(0, s 0), (4, s 4), (5, s 5), (7, s 7), (8, s 8), (68, s 68), (83, (V.d (D.bool true))), (86, (V.tup []))]) (looko ([110].map fun n => (n, o n)))) K)
 (opsB C I R_o10 (St.mk (look [(0, s 0), (4, s 4), (5, s 5), (7, s 7), (8, s 8), (68, s 68), (83, (V.tup [])), (86, (V.tup []))]) (looko ([110].map fun n => (n, o n)))) K)) := rfl
@[instance] theorem g_ref07_All_o9_u : UnfAt (opsB C I g_ref07_All.o9 (St.mk s o) K) g_ref07_All_o9_sh := Unf.of _
theorem g_ref07_All_o8_sh : opsB C I (g_ref07_All.o8F R_o9) (St.mk s o) K =
 (guardK (s 68) true
 (demand (pickV (s 71) (s 81) (V.d (.bool false))) (fun x1 =>
opsB C I R_o9 (St.mk (look [(0, s 0), (4, s 4), (5, s 5), (6, s 6), (7, s 7), (8, s 8), (68, (V.d (D.bool true))), (83, x1)]) (looko ([110].map fun n => (n, o n)))) K))
 (opsB C I R_o9 (St.mk (look [(0, s 0), (4, s 4), (5, s 5), (6, s 6), (7, s 7), (8, s 8), (68, (V.d (D.bool false))), (83, (V.tup []))]) (looko ([110].map fun n => (n, o n)))) K)
 (opsB C I R_o9 (St.mk (look [(0, s 0), (4, s 4), (5, s 5), (6, s 6), (7, s 7), (8, s 8), (68, (V.tup [])), (83, (V.tup []))]) (looko ([110].map fun n => (n, o n)))) K)) := rfl
@[instance] theorem g_ref07_All_o8_u : UnfAt (opsB C I g_ref07_All.o8 (St.mk s o) K) g_ref07_All_o8_sh := Unf.of _
theorem g_ref07_All_o7_sh : opsB C I (g_ref07_All.o7F R_o8) (St.mk s o) K =
 (guardK (s 71) true
 (demand (pickV (s 76) (V.d (.bool true)) (s 80)) (fun x1 =>
opsB C I R_o8 (St.mk (look [(0, s 0), (4, s 4), (5, s 5), (6, s 6), (7, s 7), (8, s 8), (68, s 68), (71, (V.d (D.bool true))), (81, x1)]) (looko ([110].map fun n => (n, o n)))) K))
 (opsB C I R_o8 (St.mk (look [(0, s 0), (4, s 4), (5, s 5), (6, s 6), (7, s 7), (8, s 8), (68, s 68), (71, (V.d (D.bool false))), (81, (V.tup []))]) (looko ([110].map fun n => (n, o n)))) K)
 (opsB C I R_o8 (St.mk (look [(0, s 0), (4, s 4), (5, s 5), (6, s 6), (7, s 7), (8, s 8), (68, s 68), (71, (V.tup [])), (81, (V.tup []))]) (looko ([110].map fun n => (n, o n)))) K)) := rfl
@[instance] theorem g_ref07_All_o7_u : UnfAt (opsB C I g_ref07_All.o7 (St.mk s o) K) g_ref07_All_o7_sh := Unf.of _
theorem g_ref07_All_o6_sh : opsB C I (g_ref07_All.o6F R_o7) (St.mk s o) K =
 (guardK (s 76) false
 (demand (idxV (s 0) (s 7)) (fun x1 =>
demand (binV BinOp.eql x1 (V.d (.int .u8 62))) (fun x2 =>
opsB C I R_o7 (St.mk (look [(0, s 0), (4, s 4), (5, s 5), (6, s 6), (7, s 7), (8, s 8), (68, s 68), (71, s 71), (76, (V.d (D.bool false))), (80, x2)]) (looko ([110].map fun n => (n, o n)))) K)))
 (opsB C I R_o7 (St.mk (look [(0, s 0), (4, s 4), (5, s 5), (6, s 6), (7, s 7), (8, s 8), (68, s 68), (71, s 71), (76, (V.d (D.bool true))), (80, (V.tup []))]) (looko ([110].map fun n => (n, o n)))) K)
 (opsB C I R_o7 (St.mk (look [(0, s 0), (4, s 4), (5, s 5), (6, s 6), (7, s 7), (8, s 8), (68, s 68), (71, s 71), (76, (V.tup [])), (80, (V.tup []))]) (looko ([110].map fun n => (n, o n)))) K)) := rfl
@[instance] theorem g_ref07_All_o6_u : UnfAt (opsB C I g_ref07_All.o6 (St.mk s o) K) g_ref07_All_o6_sh := Unf.of _
theorem g_ref07_All_o5_sh : opsB C I (g_ref07_All.o5F R_o6) (St.mk s o) K =
 (guardK (s 71) true
 (demand (idxV (s 0) (s 7)) (fun x1 =>
demand (binV BinOp.eql x1 (V.d (.int .u8 61))) (fun x2 =>
opsB C I R_o6 (St.mk (look [(0, s 0), (4, s 4), (5, s 5), (6, s 6), (7, s 7), (8, s 8), (68, s 68), (71, (V.d (D.bool true))), (76, x2)]) (looko ([110].map fun n => (n, o n)))) K)))
 (opsB C I R_o6 (St.mk (look [(0, s 0), (4, s 4), (5, s 5), (6, s 6), (7, s 7), (8, s 8), (68, s 68), (71, (V.d (D.bool false))), (76, (V.tup []))]) (looko ([110].map fun n => (n, o n)))) K)
 (opsB C I R_o6 (St.mk (look [(0, s 0), (4, s 4), (5, s 5), (6, s 6), (7, s 7), (8, s 8), (68, s 68), (71, (V.tup [])), (76, (V.tup []))]) (looko ([110].map fun n => (n, o n)))) K)) := rfl
@[instance] theorem g_ref07_All_o5_u : UnfAt (opsB C I g_ref07_All.o5 (St.mk s o) K) g_ref07_All_o5_sh := Unf.of _
theorem g_ref07_All_o4_sh : opsB C I (g_ref07_All.o4F R_o5) (St.mk s o) K =
 (guardK (s 68) true
 (demand (binV BinOp.eql (s 6) (V.d (.int .u8 60))) (fun x1 =>
opsB C I R_o5 (St.mk (look [(0, s 0), (4, s 4), (5, s 5), (6, s 6), (7, s 7), (8, s 8), (68, (V.d (D.bool true))), (71, x1)]) (looko ([110].map fun n => (n, o n)))) K))
 (opsB C I R_o5 (St.mk (look [(0, s 0), (4, s 4), (5, s 5), (6, s 6), (7, s 7), (8, s 8), (68, (V.d (D.bool false))), (71, (V.tup []))]) (looko ([110].map fun n => (n, o n)))) K)
 (opsB C I R_o5 (St.mk (look [(0, s 0), (4, s 4), (5, s 5), (6, s 6), (7, s 7), (8, s 8), (68, (V.tup [])), (71, (V.tup []))]) (looko ([110].map fun n => (n, o n)))) K)) := rfl
@[instance] theorem g_ref07_All_o4_u : UnfAt (opsB C I g_ref07_All.o4 (St.mk s o) K) g_ref07_All_o4_sh := Unf.of _
theorem g_ref07_All_c5_sh : wpB C I (g_ref07_All.c5) (St.mk s o) Q =
 (condK (s 93)
 (demand (binV BinOp.add (s 7) (V.d (.int .i64 1))) (fun x1 =>
Q .normal (St.mk (look [(0, s 0), (4, s 4), (5, s 5), (7, x1), (8, s 8)]) (looko ([110].map fun n => (n, o n))))))
 (Q .normal (St.mk s o))) := rfl
@[instance] theorem g_ref07_All_c5_u : UnfAt (wpB C I g_ref07_All.c5 (St.mk s o) Q) g_ref07_All_c5_sh := Unf.of _
theorem g_ref07_All_c6_sh : wpB C I (g_ref07_All.c6F R_l1 R_c2 R_c3 R_c4 R_o4 R_c5) (St.mk s o) Q =
 (condK (s 18)
 (Q .normal (St.mk (look [(0, s 0), (4, s 4), (5, s 5), (7, s 7), (8, (V.d (.int .i64 (-1))))]) (looko ([110].map fun n => (n, o n)))))
 (demand (binV BinOp.eql (s 6) (V.d (.int .u8 35))) (fun x1 =>
condK x1
 (wpB C I R_l1 (St.mk (look [(0, s 0), (4, s 4), (5, s 5), (6, s 6), (7, s 7), (8, s 8), (25, x1)]) (looko ([110].map fun n => (n, o n)))) (blockK 3 [0, 4, 5, 7] (some [110]) (seqK (fun st => wpB C I R_c2 st Q) Q)))
 (callK C I (St.mk (upd (look [(0, s 0), (4, s 4), (5, s 5), (6, s 6), (7, s 7), (8, s 8), (25, x1)]) 41 (s 6)) (looko ([110].map fun n => (n, o n)))) (some 42) 96 [(s 6), (V.d (.str [97, 98, 99, 100, 101, 102, 103, 104, 105, 106, 107, 108, 109, 110, 111, 112, 113, 114, 115, 116, 117, 118, 119, 120, 121, 122]))] (fun r2 or2 =>
condK r2
 (callK C I (St.mk (upd (upd (look [(0, s 0), (4, s 4), (5, s 5), (6, s 6), (7, s 7), (8, s 8), (40, r2)]) 43 (s 0)) 44 (s 5)) (looko ([110].map fun n => (n, or2 n)))) (some 45) 97 [(s 0), (s 5), (V.d (.str [97, 98, 99, 100, 101, 102, 103, 104, 105, 106, 107, 108, 109, 110, 111, 112, 113, 114, 115, 116, 117, 118, 119, 120, 121, 122, 48, 49, 50, 51, 52, 53, 54, 55, 56, 57]))] (fun r3 or3 =>
wpB C I R_c3 (St.mk (look [(0, s 0), (4, s 4), (5, s 5), (7, r3), (8, s 8)]) (looko ([110].map fun n => (n, or3 n)))) Q))
 (callK C I (St.mk (upd (look [(0, s 0), (4, s 4), (5, s 5), (6, s 6), (7, s 7), (8, s 8), (40, r2)]) 51 (s 6)) (looko ([110].map fun n => (n, or2 n)))) (some 52) 96 [(s 6), (V.d (.str [48, 49, 50, 51, 52, 53, 54, 55, 56, 57]))] (fun r4 or4 =>
condK r4
 (callK C I (St.mk (upd (upd (look [(0, s 0), (4, s 4), (5, s 5), (6, s 6), (7, s 7), (8, s 8), (50, r4)]) 53 (s 0)) 54 (s 5)) (looko ([110].map fun n => (n, or4 n)))) (some 55) 97 [(s 0), (s 5), (V.d (.str [48, 49, 50, 51, 52, 53, 54, 55, 56, 57, 46, 37]))] (fun r5 or5 =>
wpB C I R_c4 (St.mk (look [(0, s 0), (4, s 4), (5, s 5), (7, r5)]) (looko ([110].map fun n => (n, or5 n)))) Q))
 (callK C I (St.mk (upd (look [(0, s 0), (4, s 4), (5, s 5), (6, s 6), (7, s 7), (8, s 8), (50, r4)]) 62 (s 6)) (looko ([110].map fun n => (n, or4 n)))) (some 63) 96 [(s 6), (V.d (.str [61, 60, 62, 43, 45, 42, 40, 41, 44, 59]))] (fun r6 or6 =>
condK r6
 (demand (lenSV (s 0)) (fun x7 =>
demand (binV BinOp.lss (s 7) x7) (fun x8 =>
opsB C I R_o4 (St.mk (look [(0, s 0), (4, s 4), (5, s 5), (6, s 6), (7, s 7), (8, (V.d (.int .i64 5))), (68, x8)]) (looko ([110].map fun n => (n, or6 n)))) (fun st => (seqK (fun st => wpB C I R_c5 st Q) Q) .normal (St.trim st [0, 4, 5, 7, 8, 93] (some [110]))))))
 (Q .normal (St.mk (look [(0, s 0), (4, s 4), (5, s 5), (6, s 6), (7, s 7), (8, s 8), (61, r6)]) (looko ([110].map fun n => (n, or6 n)))))))))))))) := rfl
@[instance] theorem g_ref07_All_c6_u : UnfAt (wpB C I g_ref07_All.c6 (St.mk s o) Q) g_ref07_All_c6_sh := Unf.of _
theorem g_ref07_All_c7_sh : wpB C I (g_ref07_All.c7) (St.mk s o) Q =
 (Q .normal (St.mk (look [(0, s 0), (4, s 4), (5, s 7)]) (looko ([110].map fun n => (n, o n))))) := rfl
@[instance] theorem g_ref07_All_c7_u : UnfAt (wpB C I g_ref07_All.c7 (St.mk s o) Q) g_ref07_All_c7_sh := Unf.of _
theorem g_ref07_All_c8_sh : wpB C I (g_ref07_All.c8F R_c7) (St.mk s o) Q =
 (demand (binV BinOp.gtr (s 8) (V.d (.int .i64 0))) (fun x1 =>
condK x1
 (demand (slcSV (s 0) (some (s 5)) (some (s 7))) (fun x2 =>
demand ((buildN [V.d (.int .i64 0), V.d (.str []), V.d (.int .i64 0)] [(0, 1, (s 8)), (1, 1, x2), (2, 1, (s 5))]).map V.agg) (fun x3 =>
lstK (partsN 3 [x3]) (fun es4 =>
lstK (readD (looko ([110].map fun n => (n, o n))) (V.d (D.sl es4))) (fun ys5 => (∀ e ∈ ys5, e.length = 3) ∧ appK (s 4)
 (ys5.length * 32 ≤ 140737488355328 ∧ ys5.length ≤ 140737488355328 ∧ ¬ I 110 ∧ Fresh (St.mk (upd (upd (upd (upd (upd (upd (upd (upd (upd (look [(0, s 0), (4, s 4), (5, s 5), (7, s 7), (8, s 8), (100, x1)]) 101 (s 4)) 102 (s 8)) 103 (s 0)) 104 (s 5)) 105 (s 7)) 106 x2) 107 (s 5)) 108 x3) 109 (V.d (D.sl es4))) (looko ([110].map fun n => (n, o n)))) 110 (some 110) ∧
wpB C I R_c7 (St.mk (look [(0, s 0), (4, (V.own 110)), (7, s 7)]) (looko ([110].map fun n => (n, (upd (looko ([110].map fun n => (n, o n))) 110 (some (Ob.row 3 ys5))) n)))) Q)
 (fun m6 => ¬ I m6 ∧ rowK ((looko ([110].map fun n => (n, o n))) m6) (fun z7 es8 => z7 = 3 ∧ (es8.length + ys5.length) * 32 ≤ 140737488355328 ∧ es8.length + ys5.length ≤ 140737488355328 ∧
wpB C I R_c7 (St.mk (look [(0, (scrubV m6 (s 0))), (4, (V.own m6)), (7, (scrubV m6 (s 7)))]) (looko ([110].map fun n => (n, (upd (fun n => ((looko ([110].map fun n => (n, o n))) n).map (Ob.scrub m6)) m6 (some (Ob.row 3 (es8 ++ ys5)))) n)))) Q)))))))
 (wpB C I R_c7 (St.mk (look [(0, s 0), (4, s 4), (5, s 5), (7, s 7), (8, s 8), (100, x1)]) (looko ([110].map fun n => (n, o n)))) Q))) := rfl
@[instance] theorem g_ref07_All_c8_u : UnfAt (wpB C I g_ref07_All.c8 (St.mk s o) Q) g_ref07_All_c8_sh := Unf.of _
theorem g_ref07_All_c9_sh : wpB C I (g_ref07_All.c9F R_c8) (St.mk s o) Q =
 (demand (binV BinOp.eql (s 8) (V.d (.int .i64 0))) (fun x1 =>
condK x1
 (Q .ret (St.mk (look [(2, (V.cap0)), (3, s 5)]) (looko ([110].map fun n => (n, o n)))))
 (wpB C I R_c8 (St.mk (look [(0, s 0), (4, s 4), (5, s 5), (7, s 7), (8, s 8), (97, x1)]) (looko ([110].map fun n => (n, o n)))) Q))) := rfl
@[instance] theorem g_ref07_All_c9_u : UnfAt (wpB C I g_ref07_All.c9 (St.mk s o) Q) g_ref07_All_c9_sh := Unf.of _
theorem g_ref07_All_c10_sh : wpB C I (g_ref07_All.c10F R_o0 R_c6 R_c9) (St.mk s o) Q =
 (demand (binV BinOp.eql (s 6) (V.d (.int .u8 32))) (fun x1 =>
opsB C I R_o0 (St.mk (look [(0, s 0), (4, s 4), (5, s 5), (6, s 6), (7, s 7), (8, s 8), (21, x1)]) (looko ([110].map fun n => (n, o n)))) (fun st => (seqK (fun st => wpB C I R_c6 st (blockK 2 [0, 4, 5, 7, 8] (some [110]) (seqK (fun st => wpB C I R_c9 st Q) Q))) (blockK 2 [0, 4, 5, 7, 8] (some [110]) (seqK (fun st => wpB C I R_c9 st Q) Q))) .normal (St.trim st [0, 4, 5, 6, 7, 8, 18] (some [110]))))) := rfl
@[instance] theorem g_ref07_All_c10_u : UnfAt (wpB C I g_ref07_All.c10 (St.mk s o) Q) g_ref07_All_c10_sh := Unf.of _
theorem g_ref07_All_c11_sh : wpB C I (g_ref07_All.c11F R_c10) (St.mk s o) Q =
 (demand (binV BinOp.add (s 5) (V.d (.int .i64 1))) (fun x1 =>
wpB C I R_c10 (St.mk (look [(0, s 0), (4, s 4), (5, s 5), (6, s 6), (7, x1), (8, (V.d (.int .i64 0)))]) (looko ([110].map fun n => (n, o n)))) Q)) := rfl
@[instance] theorem g_ref07_All_c11_u : UnfAt (wpB C I g_ref07_All.c11 (St.mk s o) Q) g_ref07_All_c11_sh := Unf.of _
theorem g_ref07_All_c12_sh : wpB C I (g_ref07_All.c12F R_c11) (St.mk s o) Q =
 (demand (idxV (s 0) (s 5)) (fun x1 =>
wpB C I R_c11 (St.mk (look [(0, s 0), (4, s 4), (5, s 5), (6, x1)]) (looko ([110].map fun n => (n, o n)))) (blockK 1 [0, 4, 5] (some [110]) Q))) := rfl
@[instance] theorem g_ref07_All_c12_u : UnfAt (wpB C I g_ref07_All.c12 (St.mk s o) Q) g_ref07_All_c12_sh := Unf.of _
theorem g_ref07_All_l0_sh (hL : R_l0 = g_ref07_All.l0F R_c12)
 (h : demand (lenSV (s 0)) (fun x1 =>
demand (binV BinOp.lss (s 5) x1) (fun x2 =>
condK x2
 (wpB C I R_c12 (St.mk (look [(0, s 0), (4, s 4), (5, s 5), (12, x2)]) (looko ([110].map fun n => (n, o n)))) (seqK (fun s => wpB C I R_l0 s Q) Q))
 (Q (.exit 0) (St.mk (look [(0, s 0), (4, s 4), (5, s 5), (12, x2)]) (looko ([110].map fun n => (n, o n)))))))) : wpB C I R_l0 (St.mk s o) Q := w_loopC hL h
theorem g_ref07_All_c13_sh : wpB C I (g_ref07_All.c13) (St.mk s o) Q =
 (Q .ret (St.mk (look [(2, s 4), (3, (V.d (.int .i64 (-1))))]) (looko ([110].map fun n => (n, o n))))) := rfl
@[instance] theorem g_ref07_All_c13_u : UnfAt (wpB C I g_ref07_All.c13 (St.mk s o) Q) g_ref07_All_c13_sh := Unf.of _
theorem g_ref07_All_code_sh : wpB C I (g_ref07_All.codeF R_l0 R_c13) (St.mk s o) Q =
 (wpB C I R_l0 (St.mk (look [(0, s 0), (4, (V.cap0)), (5, (V.d (.int .i64 0)))]) (looko ([110].map fun n => (n, (looko ([].map fun n => (n, o n))) n)))) (blockK 0 [4] (some [110]) (seqK (fun st => wpB C I R_c13 st Q) Q))) := rfl
@[instance] theorem g_ref07_All_code_u : UnfAt (wpB C I g_ref07_All.code (St.mk s o) Q) g_ref07_All_code_sh := Unf.of _
theorem g_ref08_text_o3_sh : opsB C I (g_ref08_text.o3) (St.mk s o) K =
 (demand (pickV (s 9) (s 27) (V.d (.bool false))) (fun x1 =>
K (St.mk (upd s 28 x1) o))) := rfl
@[instance] theorem g_ref08_text_o3_u : UnfAt (opsB C I g_ref08_text.o3 (St.mk s o) K) g_ref08_text_o3_sh := Unf.of _
theorem g_ref08_text_o2_sh : opsB C I (g_ref08_text.o2F R_o3) (St.mk s o) K =
 (guardK (s 9) true
 (demand (pickV (s 18) (V.d (.bool true)) (s 26)) (fun x1 =>
opsB C I R_o3 (St.mk (look [(1, s 1), (9, (V.d (D.bool true))), (27, x1)]) (looko ([1, 108].map fun n => (n, o n)))) K))
 (opsB C I R_o3 (St.mk (look [(1, s 1), (9, (V.d (D.bool false))), (27, (V.tup []))]) (looko ([1, 108].map fun n => (n, o n)))) K)
 (opsB C I R_o3 (St.mk (look [(1, s 1), (9, (V.tup [])), (27, (V.tup []))]) (looko ([1, 108].map fun n => (n, o n)))) K)) := rfl
@[instance] theorem g_ref08_text_o2_u : UnfAt (opsB C I g_ref08_text.o2 (St.mk s o) K) g_ref08_text_o2_sh := Unf.of _
theorem g_ref08_text_o1_sh : opsB C I (g_ref08_text.o1F R_o2) (St.mk s o) K =
 (guardK (s 18) false
 (demand (faddrV 0 (s 1)) (fun x1 =>
demand (loadV o none x1) (fun x2 =>
demand (faddrV 2 (s 1)) (fun x3 =>
demand (loadV o none x3) (fun x4 =>
demand (iaddrV o 3 x2 x4) (fun x5 =>
demand (faddrV 0 x5) (fun x6 =>
demand (loadV o none x6) (fun x7 =>
demand (binV BinOp.eql x7 (V.d (.int .i64 5))) (fun x8 =>
opsB C I R_o2 (St.mk (look [(1, s 1), (9, s 9), (18, (V.d (D.bool false))), (26, x8)]) (looko ([1, 108].map fun n => (n, o n)))) K)))))))))
 (opsB C I R_o2 (St.mk (look [(1, s 1), (9, s 9), (18, (V.d (D.bool true))), (26, (V.tup []))]) (looko ([1, 108].map fun n => (n, o n)))) K)
 (opsB C I R_o2 (St.mk (look [(1, s 1), (9, s 9), (18, (V.tup [])), (26, (V.tup []))]) (looko ([1, 108].map fun n => (n, o n)))) K)) := rfl
@[instance] theorem g_ref08_text_o1_u : UnfAt (opsB C I g_ref08_text.o1 (St.mk s o) K) g_ref08_text_o1_sh := Unf.of _
theorem g_ref08_text_o0_sh : opsB C I (g_ref08_text.o0F R_o1) (St.mk s o) K =
 (guardK (s 9) true
 (demand (faddrV 0 (s 1)) (fun x1 =>
demand (loadV o none x1) (fun x2 =>
demand (faddrV 2 (s 1)) (fun x3 =>
demand (loadV o none x3) (fun x4 =>
demand (iaddrV o 3 x2 x4) (fun x5 =>
demand (faddrV 0 x5) (fun x6 =>
demand (loadV o none x6) (fun x7 =>
demand (binV BinOp.eql x7 (V.d (.int .i64 1))) (fun x8 =>
opsB C I R_o1 (St.mk (look [(1, s 1), (9, (V.d (D.bool true))), (18, x8)]) (looko ([1, 108].map fun n => (n, o n)))) K)))))))))
 (opsB C I R_o1 (St.mk (look [(1, s 1), (9, (V.d (D.bool false))), (18, (V.tup []))]) (looko ([1, 108].map fun n => (n, o n)))) K)
 (opsB C I R_o1 (St.mk (look [(1, s 1), (9, (V.tup [])), (18, (V.tup []))]) (looko ([1, 108].map fun n => (n, o n)))) K)) := rfl
@[instance] theorem g_ref08_text_o0_u : UnfAt (opsB C I g_ref08_text.o0 (St.mk s o) K) g_ref08_text_o0_sh := Unf.of _
theorem g_ref08_text_c0_sh : wpB C I (g_ref08_text.c0) (St.mk s o) Q =
 (condK (s 28)
 (demand (faddrV 0 (s 1)) (fun x1 =>
demand (loadV o none x1) (fun x2 =>
demand (faddrV 2 (s 1)) (fun x3 =>
demand (loadV o none x3) (fun x4 =>
demand (iaddrV o 3 x2 x4) (fun x5 =>
demand (faddrV 1 x5) (fun x6 =>
demand (loadV o none x6) (fun x7 =>
Q .ret (St.mk (look [(2, x7)]) (looko ([108].map fun n => (n, o n))))))))))))
 (Q .normal (St.mk s o))) := rfl
@[instance] theorem g_ref08_text_c0_u : UnfAt (wpB C I g_ref08_text.c0 (St.mk s o) Q) g_ref08_text_c0_sh := Unf.of _
theorem g_ref08_text_c1_sh : wpB C I (g_ref08_text.c1) (St.mk s o) Q =
 (Q .ret (St.mk (look [(2, (V.d (.str [])))]) (looko ([108].map fun n => (n, o n))))) := rfl
@[instance] theorem g_ref08_text_c1_u : UnfAt (wpB C I g_ref08_text.c1 (St.mk s o) Q) g_ref08_text_c1_sh := Unf.of _
theorem g_ref08_text_code_sh : wpB C I (g_ref08_text.codeF R_o0 R_c0 R_c1) (St.mk s o) Q =
 (lstK (cellsV (s 0)) (fun c1 => c1.length = 7 ∧ ¬ I 1 ∧ Fresh (St.mk s o) 1 (some 1) ∧ V.refsL 1 c1 = false ∧
demand (faddrV 2 (V.ptr 1 0)) (fun x2 =>
demand (loadV (looko ([1, 108].map fun n => (n, (upd o 1 (some (Ob.box c1))) n))) none x2) (fun x3 =>
demand (faddrV 0 (V.ptr 1 0)) (fun x4 =>
demand (loadV (looko ([1, 108].map fun n => (n, (upd o 1 (some (Ob.box c1))) n))) none x4) (fun x5 =>
demand (lenV (looko ([1, 108].map fun n => (n, (upd o 1 (some (Ob.box c1))) n))) x5) (fun x6 =>
demand (binV BinOp.lss x3 x6) (fun x7 =>
opsB C I R_o0 (St.mk (look [(1, (V.ptr 1 0)), (9, x7)]) (looko ([1, 108].map fun n => (n, (upd o 1 (some (Ob.box c1))) n)))) (fun st => (seqK (fun st => wpB C I R_c0 st (seqK (fun st => wpB C I R_c1 st Q) Q)) (seqK (fun st => wpB C I R_c1 st Q) Q)) .normal (St.trim st [1, 28] (some [1, 108]))))))))))) := rfl
@[instance] theorem g_ref08_text_code_u : UnfAt (wpB C I g_ref08_text.code (St.mk s o) Q) g_ref08_text_code_sh := Unf.of _
theorem g_ref08_one_c0_sh : wpB C I (g_ref08_one.c0) (St.mk s o) Q =
 (demand (binV BinOp.add (s 5) (V.d (.int .i64 1))) (fun x1 =>
Q .normal (St.mk (look [(0, s 0), (1, s 1), (5, x1)]) (looko ([].map fun n => (n, o n)))))) := rfl
@[instance] theorem g_ref08_one_c0_u : UnfAt (wpB C I g_ref08_one.c0 (St.mk s o) Q) g_ref08_one_c0_sh := Unf.of _
theorem g_ref08_one_c1_sh : wpB C I (g_ref08_one.c1F R_c0) (St.mk s o) Q =
 (demand (iaddrV o 1 (s 1) (s 5)) (fun x1 =>
demand (loadV o none x1) (fun x2 =>
demand (binV BinOp.eql x2 (s 0)) (fun x3 =>
condK x3
 (Q .ret (St.mk (look [(4, (V.d (.bool true)))]) (looko ([].map fun n => (n, o n)))))
 (wpB C I R_c0 (St.mk (look [(0, s 0), (1, s 1), (5, s 5)]) (looko ([].map fun n => (n, o n)))) Q))))) := rfl
@[instance] theorem g_ref08_one_c1_u : UnfAt (wpB C I g_ref08_one.c1 (St.mk s o) Q) g_ref08_one_c1_sh := Unf.of _
theorem g_ref08_one_l0_sh (hL : R_l0 = g_ref08_one.l0F R_c1)
 (h : demand (lenV (looko ([].map fun n => (n, o n))) (s 1)) (fun x1 =>
demand (binV BinOp.lss (s 5) x1) (fun x2 =>
condK x2
 (wpB C I R_c1 (St.mk (look [(0, s 0), (1, s 1), (5, s 5), (9, x2)]) (looko ([].map fun n => (n, o n)))) (seqK (fun s => wpB C I R_l0 s Q) Q))
 (Q (.exit 0) (St.mk (look [(0, s 0), (1, s 1), (5, s 5), (9, x2)]) (looko ([].map fun n => (n, o n)))))))) : wpB C I R_l0 (St.mk s o) Q := w_loopC hL h
theorem g_ref08_one_c2_sh : wpB C I (g_ref08_one.c2) (St.mk s o) Q =
 (Q .ret (St.mk (look [(4, (V.d (.bool false)))]) (looko ([].map fun n => (n, o n))))) := rfl
@[instance] theorem g_ref08_one_c2_u : UnfAt (wpB C I g_ref08_one.c2 (St.mk s o) Q) g_ref08_one_c2_sh := Unf.of _
theorem g_ref08_one_code_sh : wpB C I (g_ref08_one.codeF R_l0 R_c2) (St.mk s o) Q =
 (wpB C I R_l0 (St.mk (look [(0, s 0), (1, s 1), (5, (V.d (.int .i64 0)))]) (looko ([].map fun n => (n, o n)))) (blockK 0 [] (some []) (seqK (fun st => wpB C I R_c2 st Q) Q))) := rfl
@[instance] theorem g_ref08_one_code_u : UnfAt (wpB C I g_ref08_one.code (St.mk s o) Q) g_ref08_one_code_sh := Unf.of _
theorem g_ref08_wrong_c0_sh : wpB C I (g_ref08_wrong.c0) (St.mk s o) Q =
 (demand (faddrV 2 (s 2)) (fun x1 =>
demand (loadV o none x1) (fun x2 =>
demand (faddrV 0 (s 2)) (fun x3 =>
demand (loadV o none x3) (fun x4 =>
demand (lenV o x4) (fun x5 =>
demand (binV BinOp.lss x2 x5) (fun x6 =>
condK x6
 (demand (faddrV 0 (s 2)) (fun x7 =>
demand (loadV (looko ([2, 4, 108].map fun n => (n, o n))) none x7) (fun x8 =>
demand (faddrV 2 (s 2)) (fun x9 =>
demand (loadV (looko ([2, 4, 108].map fun n => (n, o n))) none x9) (fun x10 =>
demand (iaddrV (looko ([2, 4, 108].map fun n => (n, o n))) 3 x8 x10) (fun x11 =>
demand (faddrV 2 x11) (fun x12 =>
demand (loadV (looko ([2, 4, 108].map fun n => (n, o n))) none x12) (fun x13 =>
demand (faddrV 6 (s 2)) (fun x14 =>
storeK x14 (cellsV x13) 1 (looko ([2, 4, 108].map fun n => (n, o n))) (fun m15 ob16 =>
Q .normal (St.mk (look [(2, s 2), (4, s 4)]) (looko ([2, 4, 108].map fun n => (n, (upd (looko ([2, 4, 108].map fun n => (n, o n))) m15 (some ob16)) n))))))))))))))
 (Q .normal (St.mk (look [(2, s 2), (4, s 4), (18, x6)]) (looko ([2, 4, 108].map fun n => (n, o n)))))))))))) := rfl
@[instance] theorem g_ref08_wrong_c0_u : UnfAt (wpB C I g_ref08_wrong.c0 (St.mk s o) Q) g_ref08_wrong_c0_sh := Unf.of _
theorem g_ref08_wrong_c1_sh : wpB C I (g_ref08_wrong.c1) (St.mk s o) Q =
 (demand (loadV o (some 7) (s 2)) (fun x1 =>
storeK (s 4) (cellsV x1) 7 o (fun m2 ob3 =>
Q .ret (St.mk (look [(4, s 4)]) (looko ([4, 108].map fun n => (n, (upd o m2 (some ob3)) n))))))) := rfl
@[instance] theorem g_ref08_wrong_c1_u : UnfAt (wpB C I g_ref08_wrong.c1 (St.mk s o) Q) g_ref08_wrong_c1_sh := Unf.of _
theorem g_ref08_wrong_code_sh : wpB C I (g_ref08_wrong.codeF R_c0 R_c1) (St.mk s o) Q =
 (lstK (cellsV (s 0)) (fun c1 => c1.length = 7 ∧ ¬ I 2 ∧ Fresh (St.mk s o) 2 (some 2) ∧ V.refsL 2 c1 = false ∧
(¬ I 4 ∧ Fresh (St.mk (upd s 2 (V.ptr 2 0)) (upd o 2 (some (Ob.box c1)))) 4 (some 4) ∧ V.refsL 4 [V.cap0, V.d (.int .i64 0), V.d (.int .i64 0), V.cap0, V.cap0, V.d (.int .i64 0), V.d (.int .i64 0)] = false ∧
demand (faddrV 5 (V.ptr 2 0)) (fun x2 =>
demand (loadV (looko ([2, 4, 108].map fun n => (n, (upd (upd o 2 (some (Ob.box c1))) 4 (some (Ob.box [V.cap0, V.d (.int .i64 0), V.d (.int .i64 0), V.cap0, V.cap0, V.d (.int .i64 0), V.d (.int .i64 0)]))) n))) none x2) (fun x3 =>
demand (binV BinOp.eql x3 (V.d (.int .i64 0))) (fun x4 =>
condK x4
 (demand (faddrV 5 (V.ptr 2 0)) (fun x5 =>
storeK x5 (cellsV (s 1)) 1 (looko ([2, 4, 108].map fun n => (n, (upd (upd o 2 (some (Ob.box c1))) 4 (some (Ob.box [V.cap0, V.d (.int .i64 0), V.d (.int .i64 0), V.cap0, V.cap0, V.d (.int .i64 0), V.d (.int .i64 0)]))) n))) (fun m6 ob7 =>
demand (faddrV 1 (V.ptr 2 0)) (fun x8 =>
demand (loadV (looko ([2, 4, 108].map fun n => (n, (upd (looko ([2, 4, 108].map fun n => (n, (upd (upd o 2 (some (Ob.box c1))) 4 (some (Ob.box [V.cap0, V.d (.int .i64 0), V.d (.int .i64 0), V.cap0, V.cap0, V.d (.int .i64 0), V.d (.int .i64 0)]))) n))) m6 (some ob7)) n))) none x8) (fun x9 =>
demand (faddrV 6 (V.ptr 2 0)) (fun x10 =>
storeK x10 (cellsV x9) 1 (looko ([2, 4, 108].map fun n => (n, (upd (looko ([2, 4, 108].map fun n => (n, (upd (upd o 2 (some (Ob.box c1))) 4 (some (Ob.box [V.cap0, V.d (.int .i64 0), V.d (.int .i64 0), V.cap0, V.cap0, V.d (.int .i64 0), V.d (.int .i64 0)]))) n))) m6 (some ob7)) n))) (fun m11 ob12 =>
wpB C I R_c0 (St.mk (look [(2, (V.ptr 2 0)), (4, (V.ptr 4 0))]) (looko ([2, 4, 108].map fun n => (n, (upd (looko ([2, 4, 108].map fun n => (n, (upd (looko ([2, 4, 108].map fun n => (n, (upd (upd o 2 (some (Ob.box c1))) 4 (some (Ob.box [V.cap0, V.d (.int .i64 0), V.d (.int .i64 0), V.cap0, V.cap0, V.d (.int .i64 0), V.d (.int .i64 0)]))) n))) m6 (some ob7)) n))) m11 (some ob12)) n)))) (seqK (fun st => wpB C I R_c1 st Q) Q))))))))
 (wpB C I R_c1 (St.mk (look [(1, s 1), (2, (V.ptr 2 0)), (4, (V.ptr 4 0)), (7, x4)]) (looko ([2, 4, 108].map fun n => (n, (upd (upd o 2 (some (Ob.box c1))) 4 (some (Ob.box [V.cap0, V.d (.int .i64 0), V.d (.int .i64 0), V.cap0, V.cap0, V.d (.int .i64 0), V.d (.int .i64 0)]))) n)))) Q))))))) := rfl
@[instance] theorem g_ref08_wrong_code_u : UnfAt (wpB C I g_ref08_wrong.code (St.mk s o) Q) g_ref08_wrong_code_sh := Unf.of _
theorem g_ref08_Taken_code_sh : wpB C I (g_ref08_Taken.code) (St.mk s o) Q =
 (lstK (partsN 1 [(V.d (.str [101, 97, 114, 110])), (V.d (.str [112, 114, 101, 116, 97, 120])), (V.d (.str [112, 111, 115, 116])), (V.d (.str [108, 101, 116])), (V.d (.str [105, 102])), (V.d (.str [116, 104, 101, 110])), (V.d (.str [101, 108, 115, 101])), (V.d (.str [109, 105, 110])), (V.d (.str [109, 97, 120]))]) (fun es1 =>
callK C I (St.mk (upd (upd (look [(0, s 0)]) 3 (s 0)) 4 (V.d (D.sl es1))) (looko ([].map fun n => (n, o n)))) (some 5) 154 [(s 0), (V.d (D.sl es1))] (fun r2 or2 =>
Q .ret (St.mk (look [(2, r2)]) (looko ([].map fun n => (n, or2 n))))))) := rfl
@[instance] theorem g_ref08_Taken_code_u : UnfAt (wpB C I g_ref08_Taken.code (St.mk s o) Q) g_ref08_Taken_code_sh := Unf.of _
theorem g_ref08_whole_c0_sh : wpB C I (g_ref08_whole.c0) (St.mk s o) Q =
 (demand (loadV o (some 7) (s 2)) (fun x1 =>
demand ((buildN [V.d (.str []), V.d (.str []), V.d (.int .i64 0), V.d (.int .i64 0), V.d (.int .i64 0), V.d (.int .i64 0)] [(0, 1, (V.d (.str [105, 102]))), (3, 1, (s 6)), (4, 1, (s 7)), (5, 1, (s 8))]).map V.agg) (fun x2 =>
callK C I (St.mk (upd (upd (upd (upd (upd s 52 x1) 53 (s 6)) 54 (s 7)) 55 (s 8)) 56 x2) o) (some 57) 209 [x1, x2] (fun r3 or3 =>
demand (extV r3 0) (fun x4 =>
demand (extV r3 1) (fun x5 =>
storeK (s 4) (cellsV x4) 7 or3 (fun m6 ob7 =>
Q .ret (St.mk (look [(4, s 4), (5, x5)]) (looko ([4, 108].map fun n => (n, (upd or3 m6 (some ob7)) n))))))))))) := rfl
@[instance] theorem g_ref08_whole_c0_u : UnfAt (wpB C I g_ref08_whole.c0 (St.mk s o) Q) g_ref08_whole_c0_sh := Unf.of _
theorem g_ref08_whole_c1_sh : wpB C I (g_ref08_whole.c1F R_c0) (St.mk s o) Q =
 (demand (loadV o (some 7) (s 2)) (fun x1 =>
callK C I (St.mk (upd s 45 x1) o) (some 46) 195 [x1, (V.d (.str [101, 108, 115, 101]))] (fun r2 or2 =>
demand (binV BinOp.add (s 1) (V.d (.int .i64 1))) (fun x3 =>
callK C I (St.mk (upd (upd (upd (upd s 45 x1) 46 r2) 47 (s 1)) 48 x3) or2) (some 49) 196 [r2, x3] (fun r4 or4 =>
demand (extV r4 0) (fun x5 =>
demand (extV r4 1) (fun x6 =>
storeK (s 2) (cellsV x5) 7 or4 (fun m7 ob8 =>
wpB C I R_c0 (St.mk (look [(2, s 2), (4, s 4), (6, s 6), (7, s 7), (8, x6)]) (looko ([2, 4, 108].map fun n => (n, (upd or4 m7 (some ob8)) n)))) Q)))))))) := rfl
@[instance] theorem g_ref08_whole_c1_u : UnfAt (wpB C I g_ref08_whole.c1 (St.mk s o) Q) g_ref08_whole_c1_sh := Unf.of _
theorem g_ref08_whole_c2_sh : wpB C I (g_ref08_whole.c2F R_c1) (St.mk s o) Q =
 (demand (loadV o (some 7) (s 2)) (fun x1 =>
callK C I (St.mk (upd s 37 x1) o) (some 38) 195 [x1, (V.d (.str [116, 104, 101, 110]))] (fun r2 or2 =>
demand (binV BinOp.add (s 1) (V.d (.int .i64 1))) (fun x3 =>
callK C I (St.mk (upd (upd (upd (upd s 37 x1) 38 r2) 39 (s 1)) 40 x3) or2) (some 41) 196 [r2, x3] (fun r4 or4 =>
demand (extV r4 0) (fun x5 =>
demand (extV r4 1) (fun x6 =>
storeK (s 2) (cellsV x5) 7 or4 (fun m7 ob8 =>
wpB C I R_c1 (St.mk (look [(1, s 1), (2, s 2), (4, s 4), (6, s 6), (7, x6)]) (looko ([2, 4, 108].map fun n => (n, (upd or4 m7 (some ob8)) n)))) Q)))))))) := rfl
@[instance] theorem g_ref08_whole_c2_u : UnfAt (wpB C I g_ref08_whole.c2 (St.mk s o) Q) g_ref08_whole_c2_sh := Unf.of _
theorem g_ref08_whole_c3_sh : wpB C I (g_ref08_whole.c3F R_c2) (St.mk s o) Q =
 (demand (loadV o (some 7) (s 2)) (fun x1 =>
demand (binV BinOp.add (s 1) (V.d (.int .i64 1))) (fun x2 =>
callK C I (St.mk (upd (upd (upd s 30 x1) 31 (s 1)) 32 x2) o) (some 33) 196 [x1, x2] (fun r3 or3 =>
demand (extV r3 0) (fun x4 =>
demand (extV r3 1) (fun x5 =>
storeK (s 2) (cellsV x4) 7 or3 (fun m6 ob7 =>
wpB C I R_c2 (St.mk (look [(1, s 1), (2, s 2), (4, s 4), (6, x5)]) (looko ([2, 4, 108].map fun n => (n, (upd or3 m6 (some ob7)) n)))) Q))))))) := rfl
@[instance] theorem g_ref08_whole_c3_u : UnfAt (wpB C I g_ref08_whole.c3 (St.mk s o) Q) g_ref08_whole_c3_sh := Unf.of _
theorem g_ref08_whole_c4_sh : wpB C I (g_ref08_whole.c4F R_c3) (St.mk s o) Q =
 (demand (faddrV 2 (s 2)) (fun x1 =>
demand (loadV o none x1) (fun x2 =>
demand (binV BinOp.add x2 (V.d (.int .i64 1))) (fun x3 =>
demand (faddrV 2 (s 2)) (fun x4 =>
storeK x4 (cellsV x3) 1 o (fun m5 ob6 =>
wpB C I R_c3 (St.mk (look [(1, s 1), (2, s 2), (4, s 4)]) (looko ([2, 4, 108].map fun n => (n, (upd o m5 (some ob6)) n)))) Q)))))) := rfl
@[instance] theorem g_ref08_whole_c4_u : UnfAt (wpB C I g_ref08_whole.c4 (St.mk s o) Q) g_ref08_whole_c4_sh := Unf.of _
theorem g_ref08_whole_c5_sh : wpB C I (g_ref08_whole.c5F R_c4) (St.mk s o) Q =
 (demand (loadV o (some 7) (s 2)) (fun x1 =>
callK C I (St.mk (upd s 17 x1) o) (some 18) 193 [x1] (fun r2 or2 =>
demand (binV BinOp.neq r2 (V.d (.str [105, 102]))) (fun x3 =>
condK x3
 (demand (loadV (looko ([2, 4, 108].map fun n => (n, or2 n))) (some 7) (s 2)) (fun x4 =>
callK C I (St.mk (upd (upd (look [(1, s 1), (2, s 2), (4, s 4), (19, x3)]) 20 x4) 21 (s 1)) (looko ([2, 4, 108].map fun n => (n, or2 n)))) (some 22) 208 [x4, (s 1), (V.d (.int .i64 0))] (fun r5 or5 =>
demand (extV r5 0) (fun x6 =>
demand (extV r5 1) (fun x7 =>
storeK (s 4) (cellsV x6) 7 or5 (fun m8 ob9 =>
Q .ret (St.mk (look [(4, s 4), (5, x7)]) (looko ([4, 108].map fun n => (n, (upd or5 m8 (some ob9)) n))))))))))
 (wpB C I R_c4 (St.mk (look [(1, s 1), (2, s 2), (4, s 4), (19, x3)]) (looko ([2, 4, 108].map fun n => (n, or2 n)))) Q))))) := rfl
@[instance] theorem g_ref08_whole_c5_u : UnfAt (wpB C I g_ref08_whole.c5 (St.mk s o) Q) g_ref08_whole_c5_sh := Unf.of _
theorem g_ref08_whole_c6_sh : wpB C I (g_ref08_whole.c6F R_c5) (St.mk s o) Q =
 (demand (faddrV 5 (s 2)) (fun x1 =>
demand (loadV o none x1) (fun x2 =>
demand (binV BinOp.neq x2 (V.d (.int .i64 0))) (fun x3 =>
condK x3
 (demand (loadV (looko ([2, 4, 108].map fun n => (n, o n))) (some 7) (s 2)) (fun x4 =>
storeK (s 4) (cellsV x4) 7 (looko ([2, 4, 108].map fun n => (n, o n))) (fun m5 ob6 =>
Q .ret (St.mk (look [(4, s 4), (5, (V.d (.int .i64 0)))]) (looko ([4, 108].map fun n => (n, (upd (looko ([2, 4, 108].map fun n => (n, o n))) m5 (some ob6)) n)))))))
 (wpB C I R_c5 (St.mk (look [(1, s 1), (2, s 2), (4, s 4), (15, x3)]) (looko ([2, 4, 108].map fun n => (n, o n)))) Q))))) := rfl
@[instance] theorem g_ref08_whole_c6_u : UnfAt (wpB C I g_ref08_whole.c6 (St.mk s o) Q) g_ref08_whole_c6_sh := Unf.of _
theorem g_ref08_whole_code_sh : wpB C I (g_ref08_whole.codeF R_c6) (St.mk s o) Q =
 (lstK (cellsV (s 0)) (fun c1 => c1.length = 7 ∧ ¬ I 2 ∧ Fresh (St.mk s o) 2 (some 2) ∧ V.refsL 2 c1 = false ∧
(¬ I 4 ∧ Fresh (St.mk (upd s 2 (V.ptr 2 0)) (upd o 2 (some (Ob.box c1)))) 4 (some 4) ∧ V.refsL 4 [V.cap0, V.d (.int .i64 0), V.d (.int .i64 0), V.cap0, V.cap0, V.d (.int .i64 0), V.d (.int .i64 0)] = false ∧
demand (binV BinOp.gtr (s 1) (V.d (.int .i64 20))) (fun x2 =>
condK x2
 (demand (loadV (looko ([2, 4, 108].map fun n => (n, (upd (upd o 2 (some (Ob.box c1))) 4 (some (Ob.box [V.cap0, V.d (.int .i64 0), V.d (.int .i64 0), V.cap0, V.cap0, V.d (.int .i64 0), V.d (.int .i64 0)]))) n))) (some 7) (V.ptr 2 0)) (fun x3 =>
callK C I (St.mk (upd (look [(1, s 1), (2, (V.ptr 2 0)), (4, (V.ptr 4 0)), (10, x2)]) 11 x3) (looko ([2, 4, 108].map fun n => (n, (upd (upd o 2 (some (Ob.box c1))) 4 (some (Ob.box [V.cap0, V.d (.int .i64 0), V.d (.int .i64 0), V.cap0, V.cap0, V.d (.int .i64 0), V.d (.int .i64 0)]))) n)))) (some 12) 194 [x3, (V.d (.int .i64 9))] (fun r4 or4 =>
storeK (V.ptr 2 0) (cellsV r4) 7 or4 (fun m5 ob6 =>
wpB C I R_c6 (St.mk (look [(1, s 1), (2, (V.ptr 2 0)), (4, (V.ptr 4 0))]) (looko ([2, 4, 108].map fun n => (n, (upd or4 m5 (some ob6)) n)))) Q))))
 (wpB C I R_c6 (St.mk (look [(1, s 1), (2, (V.ptr 2 0)), (4, (V.ptr 4 0)), (10, x2)]) (looko ([2, 4, 108].map fun n => (n, (upd (upd o 2 (some (Ob.box c1))) 4 (some (Ob.box [V.cap0, V.d (.int .i64 0), V.d (.int .i64 0), V.cap0, V.cap0, V.d (.int .i64 0), V.d (.int .i64 0)]))) n)))) Q))))) := rfl
@[instance] theorem g_ref08_whole_code_u : UnfAt (wpB C I g_ref08_whole.code (St.mk s o) Q) g_ref08_whole_code_sh := Unf.of _
theorem g_ref08_must_c0_sh : wpB C I (g_ref08_must.c0) (St.mk s o) Q =
 (demand (loadV o (some 7) (s 2)) (fun x1 =>
storeK (s 4) (cellsV x1) 7 o (fun m2 ob3 =>
Q .ret (St.mk (look [(4, s 4)]) (looko ([4, 108].map fun n => (n, (upd o m2 (some ob3)) n))))))) := rfl
@[instance] theorem g_ref08_must_c0_u : UnfAt (wpB C I g_ref08_must.c0 (St.mk s o) Q) g_ref08_must_c0_sh := Unf.of _
theorem g_ref08_must_c1_sh : wpB C I (g_ref08_must.c1F R_c0) (St.mk s o) Q =
 (demand (faddrV 2 (s 2)) (fun x1 =>
demand (loadV o none x1) (fun x2 =>
demand (binV BinOp.add x2 (V.d (.int .i64 1))) (fun x3 =>
demand (faddrV 2 (s 2)) (fun x4 =>
storeK x4 (cellsV x3) 1 o (fun m5 ob6 =>
wpB C I R_c0 (St.mk (look [(2, s 2), (4, s 4)]) (looko ([2, 4, 108].map fun n => (n, (upd o m5 (some ob6)) n)))) Q)))))) := rfl
@[instance] theorem g_ref08_must_c1_u : UnfAt (wpB C I g_ref08_must.c1 (St.mk s o) Q) g_ref08_must_c1_sh := Unf.of _
theorem g_ref08_must_c2_sh : wpB C I (g_ref08_must.c2F R_c1) (St.mk s o) Q =
 (demand (loadV o (some 7) (s 2)) (fun x1 =>
callK C I (St.mk (upd s 9 x1) o) (some 10) 193 [x1] (fun r2 or2 =>
demand (binV BinOp.neq r2 (s 1)) (fun x3 =>
condK x3
 (demand (loadV (looko ([2, 4, 108].map fun n => (n, or2 n))) (some 7) (s 2)) (fun x4 =>
callK C I (St.mk (upd (look [(2, s 2), (4, s 4), (12, x3)]) 13 x4) (looko ([2, 4, 108].map fun n => (n, or2 n)))) (some 14) 194 [x4, (V.d (.int .i64 2))] (fun r5 or5 =>
storeK (s 4) (cellsV r5) 7 or5 (fun m6 ob7 =>
Q .ret (St.mk (look [(4, s 4)]) (looko ([4, 108].map fun n => (n, (upd or5 m6 (some ob7)) n))))))))
 (wpB C I R_c1 (St.mk (look [(2, s 2), (4, s 4), (12, x3)]) (looko ([2, 4, 108].map fun n => (n, or2 n)))) Q))))) := rfl
@[instance] theorem g_ref08_must_c2_u : UnfAt (wpB C I g_ref08_must.c2 (St.mk s o) Q) g_ref08_must_c2_sh := Unf.of _
theorem g_ref08_must_code_sh : wpB C I (g_ref08_must.codeF R_c2) (St.mk s o) Q =
 (lstK (cellsV (s 0)) (fun c1 => c1.length = 7 ∧ ¬ I 2 ∧ Fresh (St.mk s o) 2 (some 2) ∧ V.refsL 2 c1 = false ∧
(¬ I 4 ∧ Fresh (St.mk (upd s 2 (V.ptr 2 0)) (upd o 2 (some (Ob.box c1)))) 4 (some 4) ∧ V.refsL 4 [V.cap0, V.d (.int .i64 0), V.d (.int .i64 0), V.cap0, V.cap0, V.d (.int .i64 0), V.d (.int .i64 0)] = false ∧
demand (faddrV 5 (V.ptr 2 0)) (fun x2 =>
demand (loadV (looko ([2, 4, 108].map fun n => (n, (upd (upd o 2 (some (Ob.box c1))) 4 (some (Ob.box [V.cap0, V.d (.int .i64 0), V.d (.int .i64 0), V.cap0, V.cap0, V.d (.int .i64 0), V.d (.int .i64 0)]))) n))) none x2) (fun x3 =>
demand (binV BinOp.neq x3 (V.d (.int .i64 0))) (fun x4 =>
condK x4
 (demand (loadV (looko ([2, 4, 108].map fun n => (n, (upd (upd o 2 (some (Ob.box c1))) 4 (some (Ob.box [V.cap0, V.d (.int .i64 0), V.d (.int .i64 0), V.cap0, V.cap0, V.d (.int .i64 0), V.d (.int .i64 0)]))) n))) (some 7) (V.ptr 2 0)) (fun x5 =>
storeK (V.ptr 4 0) (cellsV x5) 7 (looko ([2, 4, 108].map fun n => (n, (upd (upd o 2 (some (Ob.box c1))) 4 (some (Ob.box [V.cap0, V.d (.int .i64 0), V.d (.int .i64 0), V.cap0, V.cap0, V.d (.int .i64 0), V.d (.int .i64 0)]))) n))) (fun m6 ob7 =>
Q .ret (St.mk (look [(4, (V.ptr 4 0))]) (looko ([4, 108].map fun n => (n, (upd (looko ([2, 4, 108].map fun n => (n, (upd (upd o 2 (some (Ob.box c1))) 4 (some (Ob.box [V.cap0, V.d (.int .i64 0), V.d (.int .i64 0), V.cap0, V.cap0, V.d (.int .i64 0), V.d (.int .i64 0)]))) n))) m6 (some ob7)) n)))))))
 (wpB C I R_c2 (St.mk (look [(1, s 1), (2, (V.ptr 2 0)), (4, (V.ptr 4 0)), (7, x4)]) (looko ([2, 4, 108].map fun n => (n, (upd (upd o 2 (some (Ob.box c1))) 4 (some (Ob.box [V.cap0, V.d (.int .i64 0), V.d (.int .i64 0), V.cap0, V.cap0, V.d (.int .i64 0), V.d (.int .i64 0)]))) n)))) Q))))))) := rfl
@[instance] theorem g_ref08_must_code_u : UnfAt (wpB C I g_ref08_must.code (St.mk s o) Q) g_ref08_must_code_sh := Unf.of _
theorem g_ref01_Digits_l0_sh (hL : R_l0 = g_ref01_Digits.l0)
 (h : demand (binV BinOp.gtr (s 0) (V.d (.int .i64 9))) (fun x1 =>
condK x1
 (demand (binV BinOp.quo (s 0) (V.d (.int .i64 10))) (fun x2 =>
demand (binV BinOp.rem x2 (V.d (.int .i64 10))) (fun x3 =>
demand (binV BinOp.add (V.d (.int .i64 48)) x3) (fun x4 =>
demand (convV IntKind.u8 x4) (fun x5 =>
lstK (partsN 1 [x5]) (fun es6 =>
demand (bstrV (V.d (D.sl es6))) (fun x7 =>
demand (binV BinOp.add x7 (s 3)) (fun x8 =>
wpB C I R_l0 (St.mk (look [(0, x2), (3, x8)]) (looko ([].map fun n => (n, o n)))) Q))))))))
 (Q (.exit 0) (St.mk (look [(0, s 0), (3, s 3), (11, x1)]) (looko ([].map fun n => (n, o n))))))) : wpB C I R_l0 (St.mk s o) Q := w_loopC hL h
theorem g_ref01_Digits_c0_sh : wpB C I (g_ref01_Digits.c0) (St.mk s o) Q =
 (Q .ret (St.mk (look [(2, s 3)]) (looko ([].map fun n => (n, o n))))) := rfl
@[instance] theorem g_ref01_Digits_c0_u : UnfAt (wpB C I g_ref01_Digits.c0 (St.mk s o) Q) g_ref01_Digits_c0_sh := Unf.of _
theorem g_ref01_Digits_c1_sh : wpB C I (g_ref01_Digits.c1F R_l0 R_c0) (St.mk s o) Q =
 (wpB C I R_l0 (St.mk s o) (blockK 0 [3] (some []) (seqK (fun st => wpB C I R_c0 st Q) Q))) := rfl
@[instance] theorem g_ref01_Digits_c1_u : UnfAt (wpB C I g_ref01_Digits.c1 (St.mk s o) Q) g_ref01_Digits_c1_sh := Unf.of _
theorem g_ref01_Digits_code_sh : wpB C I (g_ref01_Digits.codeF R_c1) (St.mk s o) Q =
 (demand (binV BinOp.rem (s 0) (V.d (.int .i64 10))) (fun x1 =>
demand (binV BinOp.add (V.d (.int .i64 48)) x1) (fun x2 =>
demand (convV IntKind.u8 x2) (fun x3 =>
lstK (partsN 1 [x3]) (fun es4 =>
demand (bstrV (V.d (D.sl es4))) (fun x5 =>
wpB C I R_c1 (St.mk (look [(0, s 0), (3, x5)]) (looko ([].map fun n => (n, o n)))) Q)))))) := rfl
@[instance] theorem g_ref01_Digits_code_u : UnfAt (wpB C I g_ref01_Digits.code (St.mk s o) Q) g_ref01_Digits_code_sh := Unf.of _
theorem g_ref01_Text_c0_sh : wpB C I (g_ref01_Text.c0) (St.mk s o) Q =
 (demand (binV BinOp.quo (s 0) (V.d (.int .i64 100))) (fun x1 =>
callK C I (St.mk (upd (upd s 9 (s 0)) 10 x1) o) (some 11) 71 [x1] (fun r2 or2 =>
demand (binV BinOp.add r2 (V.d (.str [46]))) (fun x3 =>
demand (binV BinOp.rem (s 0) (V.d (.int .i64 100))) (fun x4 =>
demand (binV BinOp.quo x4 (V.d (.int .i64 10))) (fun x5 =>
callK C I (St.mk (upd (upd (upd (upd (upd (upd (upd s 9 (s 0)) 10 x1) 11 r2) 12 x3) 13 (s 0)) 14 x4) 15 x5) or2) (some 16) 71 [x5] (fun r6 or6 =>
demand (binV BinOp.add x3 r6) (fun x7 =>
demand (binV BinOp.rem (s 0) (V.d (.int .i64 10))) (fun x8 =>
callK C I (St.mk (upd (upd (upd (upd (upd (upd (upd (upd (upd (upd (upd s 9 (s 0)) 10 x1) 11 r2) 12 x3) 13 (s 0)) 14 x4) 15 x5) 16 r6) 17 x7) 18 (s 0)) 19 x8) or6) (some 20) 71 [x8] (fun r9 or9 =>
demand (binV BinOp.add x7 r9) (fun x10 =>
Q .ret (St.mk (look [(2, x10)]) (looko ([].map fun n => (n, or9 n))))))))))))))) := rfl
@[instance] theorem g_ref01_Text_c0_u : UnfAt (wpB C I g_ref01_Text.c0 (St.mk s o) Q) g_ref01_Text_c0_sh := Unf.of _
theorem g_ref01_Text_code_sh : wpB C I (g_ref01_Text.codeF R_c0) (St.mk s o) Q =
 (demand (binV BinOp.lss (s 0) (V.d (.int .i64 0))) (fun x1 =>
condK x1
 (demand (unV UnOp.neg (s 0)) (fun x2 =>
callK C I (St.mk (upd (upd (look [(0, s 0), (4, x1)]) 5 (s 0)) 6 x2) (looko ([].map fun n => (n, o n)))) (some 7) 54 [x2] (fun r3 or3 =>
demand (binV BinOp.add (V.d (.str [45])) r3) (fun x4 =>
Q .ret (St.mk (look [(2, x4)]) (looko ([].map fun n => (n, or3 n))))))))
 (wpB C I R_c0 (St.mk (look [(0, s 0), (4, x1)]) (looko ([].map fun n => (n, o n)))) Q))) := rfl
@[instance] theorem g_ref01_Text_code_u : UnfAt (wpB C I g_ref01_Text.code (St.mk s o) Q) g_ref01_Text_code_sh := Unf.of _
theorem g_money_Right_code_sh : wpB C I (g_money_Right.code) (St.mk s o) Q =
 (demand (binV BinOp.geq (s 0) (V.d (.int .i64 (-9223372036854775807)))) (fun x1 =>
Q .ret (St.mk (look [(2, x1)]) (looko ([].map fun n => (n, o n)))))) := rfl
@[instance] theorem g_money_Right_code_u : UnfAt (wpB C I g_money_Right.code (St.mk s o) Q) g_money_Right_code_sh := Unf.of _
theorem g_lex_run_o1_sh : opsB C I (g_lex_run.o1) (St.mk s o) K =
 (demand (pickV (s 13) (s 18) (V.d (.bool false))) (fun x1 =>
K (St.mk (upd s 19 x1) o))) := rfl
@[instance] theorem g_lex_run_o1_u : UnfAt (opsB C I g_lex_run.o1 (St.mk s o) K) g_lex_run_o1_sh := Unf.of _
theorem g_lex_run_o0_sh : opsB C I (g_lex_run.o0F R_o1) (St.mk s o) K =
 (guardK (s 13) true
 (demand (idxV (s 0) (s 7)) (fun x1 =>
fnK (s 2) (fun f3 cs4 => callK C I (St.mk (upd (upd (upd (upd (upd (upd (upd (upd (upd s 13 (V.d (D.bool true))) 14 (s 2)) 13 (V.d (D.bool true))) 15 (s 0)) 13 (V.d (D.bool true))) 16 (s 7)) 13 (V.d (D.bool true))) 17 x1) 13 (V.d (D.bool true))) o) (some 18) f3 ([x1] ++ cs4) (fun r2 or2 =>
opsB C I R_o1 (St.mk (look [(0, s 0), (1, s 1), (2, s 2), (7, s 7), (13, (V.d (D.bool true))), (18, r2)]) or2) K))))
 (opsB C I R_o1 (St.mk (look [(0, s 0), (1, s 1), (2, s 2), (7, s 7), (13, (V.d (D.bool false))), (18, (V.tup []))]) o) K)
 (opsB C I R_o1 (St.mk (look [(0, s 0), (1, s 1), (2, s 2), (7, s 7), (13, (V.tup [])), (18, (V.tup []))]) o) K)) := rfl
@[instance] theorem g_lex_run_o0_u : UnfAt (opsB C I g_lex_run.o0 (St.mk s o) K) g_lex_run_o0_sh := Unf.of _
theorem g_lex_run_c0_sh : wpB C I (g_lex_run.c0) (St.mk s o) Q =
 (condK (s 19)
 (Q .normal (St.mk s o))
 (Q (.exit 0) (St.mk s o))) := rfl
@[instance] theorem g_lex_run_c0_u : UnfAt (wpB C I g_lex_run.c0 (St.mk s o) Q) g_lex_run_c0_sh := Unf.of _
theorem g_lex_run_c1_sh : wpB C I (g_lex_run.c1) (St.mk s o) Q =
 (demand (binV BinOp.add (s 7) (V.d (.int .i64 1))) (fun x1 =>
Q .normal (St.mk (look [(0, s 0), (1, s 1), (2, s 2), (7, x1)]) o))) := rfl
@[instance] theorem g_lex_run_c1_u : UnfAt (wpB C I g_lex_run.c1 (St.mk s o) Q) g_lex_run_c1_sh := Unf.of _
theorem g_lex_run_l0_sh (hL : R_l0 = g_lex_run.l0F R_o0 R_c0 R_c1)
 (h : demand (lenSV (s 0)) (fun x1 =>
demand (binV BinOp.lss (s 7) x1) (fun x2 =>
opsB C I R_o0 (St.mk (look [(0, s 0), (1, s 1), (2, s 2), (7, s 7), (13, x2)]) o) (fun st => (seqK (fun st => wpB C I R_c0 st (seqK (fun st => wpB C I R_c1 st (seqK (fun s => wpB C I R_l0 s Q) Q)) (seqK (fun s => wpB C I R_l0 s Q) Q))) (seqK (fun st => wpB C I R_c1 st (seqK (fun s => wpB C I R_l0 s Q) Q)) (seqK (fun s => wpB C I R_l0 s Q) Q))) .normal (St.trim st [0, 1, 2, 7, 19] none))))) : wpB C I R_l0 (St.mk s o) Q := w_loopC hL h
theorem g_lex_run_c2_sh : wpB C I (g_lex_run.c2) (St.mk s o) Q =
 (demand (binV BinOp.sub (s 7) (s 1)) (fun x1 =>
Q .ret (St.mk (look [(6, x1)]) o))) := rfl
@[instance] theorem g_lex_run_c2_u : UnfAt (wpB C I g_lex_run.c2 (St.mk s o) Q) g_lex_run_c2_sh := Unf.of _
theorem g_lex_run_code_sh : wpB C I (g_lex_run.codeF R_l0 R_c2) (St.mk s o) Q =
 (wpB C I R_l0 (St.mk (look [(0, s 0), (1, s 1), (2, s 2), (7, s 1)]) o) (blockK 0 [1, 7] none (seqK (fun st => wpB C I R_c2 st Q) Q))) := rfl
@[instance] theorem g_lex_run_code_u : UnfAt (wpB C I g_lex_run.code (St.mk s o) Q) g_lex_run_code_sh := Unf.of _
theorem g_lex_All_1_code_sh : wpB C I (g_lex_All_1.code) (St.mk s o) Q =
 (demand (binV BinOp.neq (s 0) (V.d (.int .u8 10))) (fun x1 =>
Q .ret (St.mk (look [(2, x1)]) (looko ([].map fun n => (n, o n)))))) := rfl
@[instance] theorem g_lex_All_1_code_u : UnfAt (wpB C I g_lex_All_1.code (St.mk s o) Q) g_lex_All_1_code_sh := Unf.of _
theorem g_lex_one_c0_sh : wpB C I (g_lex_one.c0) (St.mk s o) Q =
 (Q .ret (St.mk (look [(4, (V.d (.int .i64 1))), (5, s 7)]) (looko ([].map fun n => (n, o n))))) := rfl
@[instance] theorem g_lex_one_c0_u : UnfAt (wpB C I g_lex_one.c0 (St.mk s o) Q) g_lex_one_c0_sh := Unf.of _
theorem g_lex_one_c1_sh : wpB C I (g_lex_one.c1F R_c0) (St.mk s o) Q =
 (demand (binV BinOp.gtr (s 7) (V.d (.int .i64 12))) (fun x1 =>
condK x1
 (Q .ret (St.mk (look [(4, (V.d (.int .i64 0))), (5, (V.d (.int .i64 0)))]) (looko ([].map fun n => (n, o n)))))
 (wpB C I R_c0 (St.mk (look [(7, s 7), (20, x1)]) (looko ([].map fun n => (n, o n)))) Q))) := rfl
@[instance] theorem g_lex_one_c1_u : UnfAt (wpB C I g_lex_one.c1 (St.mk s o) Q) g_lex_one_c1_sh := Unf.of _
theorem g_lex_one_c2_sh : wpB C I (g_lex_one.c2) (St.mk s o) Q =
 (demand (binV BinOp.add (s 1) (s 8)) (fun x1 =>
demand (slcSV (s 0) (some (s 1)) (some x1)) (fun x2 =>
callK C I (St.mk (upd (upd (upd (upd (upd (upd s 28 (s 0)) 29 (s 1)) 30 (s 1)) 31 (s 8)) 32 x1) 33 x2) o) (some 34) 109 [x2] (fun r3 or3 =>
Q .ret (St.mk (look [(4, r3), (5, s 8)]) (looko ([].map fun n => (n, or3 n)))))))) := rfl
@[instance] theorem g_lex_one_c2_u : UnfAt (wpB C I g_lex_one.c2 (St.mk s o) Q) g_lex_one_c2_sh := Unf.of _
theorem g_lex_one_c3_sh : wpB C I (g_lex_one.c3F R_c1 R_c2) (St.mk s o) Q =
 (callK C I (St.mk (upd s 14 (s 6)) o) (some 15) 105 [(s 6)] (fun r1 or1 =>
condK r1
 (callK C I (St.mk (upd (upd (look [(0, s 0), (1, s 1), (6, s 6), (13, r1)]) 16 (s 0)) 17 (s 1)) (looko ([].map fun n => (n, or1 n)))) (some 18) 102 [(s 0), (s 1), (V.fn 106 [])] (fun r2 or2 =>
wpB C I R_c1 (St.mk (look [(7, r2)]) (looko ([].map fun n => (n, or2 n)))) (blockK 0 [0, 1] (some []) Q)))
 (callK C I (St.mk (upd (look [(0, s 0), (1, s 1), (6, s 6), (13, r1)]) 23 (s 6)) (looko ([].map fun n => (n, or1 n)))) (some 24) 107 [(s 6)] (fun r3 or3 =>
condK r3
 (callK C I (St.mk (upd (upd (look [(0, s 0), (1, s 1), (22, r3)]) 25 (s 0)) 26 (s 1)) (looko ([].map fun n => (n, or3 n)))) (some 27) 102 [(s 0), (s 1), (V.fn 108 [])] (fun r4 or4 =>
wpB C I R_c2 (St.mk (look [(0, s 0), (1, s 1), (8, r4)]) (looko ([].map fun n => (n, or4 n)))) (blockK 0 [0, 1] (some []) Q)))
 (Q .normal (St.mk (look [(0, s 0), (1, s 1)]) (looko ([].map fun n => (n, or3 n))))))))) := rfl
@[instance] theorem g_lex_one_c3_u : UnfAt (wpB C I g_lex_one.c3 (St.mk s o) Q) g_lex_one_c3_sh := Unf.of _
theorem g_lex_one_c4_sh : wpB C I (g_lex_one.c4) (St.mk s o) Q =
 (Q .ret (St.mk (look [(4, (V.d (.int .i64 5))), (5, s 9)]) (looko ([].map fun n => (n, o n))))) := rfl
@[instance] theorem g_lex_one_c4_u : UnfAt (wpB C I g_lex_one.c4 (St.mk s o) Q) g_lex_one_c4_sh := Unf.of _
theorem g_lex_one_c5_sh : wpB C I (g_lex_one.c5F R_c4) (St.mk s o) Q =
 (demand (binV BinOp.eql (s 9) (V.d (.int .i64 0))) (fun x1 =>
condK x1
 (Q .ret (St.mk (look [(4, (V.d (.int .i64 0))), (5, (V.d (.int .i64 0)))]) (looko ([].map fun n => (n, o n)))))
 (wpB C I R_c4 (St.mk (look [(9, s 9), (41, x1)]) (looko ([].map fun n => (n, o n)))) Q))) := rfl
@[instance] theorem g_lex_one_c5_u : UnfAt (wpB C I g_lex_one.c5 (St.mk s o) Q) g_lex_one_c5_sh := Unf.of _
theorem g_lex_one_c6_sh : wpB C I (g_lex_one.c6F R_c5) (St.mk s o) Q =
 (demand (slcSV (s 0) (some (s 1)) none) (fun x1 =>
callK C I (St.mk (upd (upd (upd s 36 (s 0)) 37 (s 1)) 38 x1) o) (some 39) 110 [x1] (fun r2 or2 =>
wpB C I R_c5 (St.mk (look [(9, r2)]) (looko ([].map fun n => (n, or2 n)))) Q))) := rfl
@[instance] theorem g_lex_one_c6_u : UnfAt (wpB C I g_lex_one.c6 (St.mk s o) Q) g_lex_one_c6_sh := Unf.of _
theorem g_lex_one_code_sh : wpB C I (g_lex_one.codeF R_c3 R_c6) (St.mk s o) Q =
 (demand (idxV (s 0) (s 1)) (fun x1 =>
wpB C I R_c3 (St.mk (look [(0, s 0), (1, s 1), (6, x1)]) (looko ([].map fun n => (n, o n)))) (seqK (fun st => wpB C I R_c6 st Q) Q))) := rfl
@[instance] theorem g_lex_one_code_u : UnfAt (wpB C I g_lex_one.code (St.mk s o) Q) g_lex_one_code_sh := Unf.of _
theorem g_tree_parser_token_c0_sh : wpB C I (g_tree_parser_token.c0) (St.mk s o) Q =
 (demand (nilcV (s 0)) (fun x1 =>
demand (faddrV 1 x1) (fun x2 =>
demand (loadV o none x2) (fun x3 =>
demand ((buildN [V.d (.int .i64 0), V.d (.str []), V.d (.int .i64 0)] [(2, 1, x3)]).map V.agg) (fun x4 =>
storeK (s 2) (cellsV x4) 3 o (fun m5 ob6 =>
Q .ret (St.mk (look [(2, s 2)]) (upd o m5 (some ob6))))))))) := rfl
@[instance] theorem g_tree_parser_token_c0_u : UnfAt (wpB C I g_tree_parser_token.c0 (St.mk s o) Q) g_tree_parser_token_c0_sh := Unf.of _
theorem g_tree_parser_token_code_sh : wpB C I (g_tree_parser_token.codeF R_c0) (St.mk s o) Q =
 ((¬ I 2 ∧ Fresh (St.mk s o) 2 (some 2) ∧ V.refsL 2 [V.d (.int .i64 0), V.d (.str []), V.d (.int .i64 0)] = false ∧
V.undef = V.undef ∧ (quietV (upd o 2 (some (Ob.box [V.d (.int .i64 0), V.d (.str []), V.d (.int .i64 0)]))) ((s 0) :: [(s 0)]) ∧
V.undef = V.undef ∧ (demand (nilcV (s 0)) (fun x2 => quietV (upd o 2 (some (Ob.box [V.d (.int .i64 0), V.d (.str []), V.d (.int .i64 0)]))) (x2 :: [(s 0)]) ∧
V.undef = V.undef ∧ (demand (faddrV 2 x2) (fun x3 => quietV (upd o 2 (some (Ob.box [V.d (.int .i64 0), V.d (.str []), V.d (.int .i64 0)]))) (x3 :: [x2]) ∧
V.undef = V.undef ∧ (demand (loadV (upd o 2 (some (Ob.box [V.d (.int .i64 0), V.d (.str []), V.d (.int .i64 0)]))) none x3) (fun x4 => quietV (upd o 2 (some (Ob.box [V.d (.int .i64 0), V.d (.str []), V.d (.int .i64 0)]))) (x4 :: [x3]) ∧
V.undef = V.undef ∧ (quietV (upd o 2 (some (Ob.box [V.d (.int .i64 0), V.d (.str []), V.d (.int .i64 0)]))) ((s 0) :: [(s 0)]) ∧
V.undef = V.undef ∧ (demand (nilcV (s 0)) (fun x6 => quietV (upd o 2 (some (Ob.box [V.d (.int .i64 0), V.d (.str []), V.d (.int .i64 0)]))) (x6 :: [(s 0)]) ∧
V.undef = V.undef ∧ (demand (faddrV 0 x6) (fun x7 => quietV (upd o 2 (some (Ob.box [V.d (.int .i64 0), V.d (.str []), V.d (.int .i64 0)]))) (x7 :: [x6]) ∧
V.undef = V.undef ∧ (demand (loadV (upd o 2 (some (Ob.box [V.d (.int .i64 0), V.d (.str []), V.d (.int .i64 0)]))) none x7) (fun x8 => quietV (upd o 2 (some (Ob.box [V.d (.int .i64 0), V.d (.str []), V.d (.int .i64 0)]))) (x8 :: [x7]) ∧
V.undef = V.undef ∧ (demand (lenV (upd o 2 (some (Ob.box [V.d (.int .i64 0), V.d (.str []), V.d (.int .i64 0)]))) x8) (fun x9 => quietV (upd o 2 (some (Ob.box [V.d (.int .i64 0), V.d (.str []), V.d (.int .i64 0)]))) (x9 :: [x8]) ∧
V.undef = V.undef ∧ (demand (binV BinOp.lss x4 x9) (fun x10 => quietV (upd o 2 (some (Ob.box [V.d (.int .i64 0), V.d (.str []), V.d (.int .i64 0)]))) (x10 :: [x4, x9]) ∧
condK x10
 (V.undef = V.undef ∧ (quietV (upd o 2 (some (Ob.box [V.d (.int .i64 0), V.d (.str []), V.d (.int .i64 0)]))) ((s 0) :: [(s 0)]) ∧
V.undef = V.undef ∧ (demand (nilcV (s 0)) (fun x12 => quietV (upd o 2 (some (Ob.box [V.d (.int .i64 0), V.d (.str []), V.d (.int .i64 0)]))) (x12 :: [(s 0)]) ∧
V.undef = V.undef ∧ (demand (faddrV 0 x12) (fun x13 => quietV (upd o 2 (some (Ob.box [V.d (.int .i64 0), V.d (.str []), V.d (.int .i64 0)]))) (x13 :: [x12]) ∧
V.undef = V.undef ∧ (demand (loadV (upd o 2 (some (Ob.box [V.d (.int .i64 0), V.d (.str []), V.d (.int .i64 0)]))) none x13) (fun x14 => quietV (upd o 2 (some (Ob.box [V.d (.int .i64 0), V.d (.str []), V.d (.int .i64 0)]))) (x14 :: [x13]) ∧
V.undef = V.undef ∧ (quietV (upd o 2 (some (Ob.box [V.d (.int .i64 0), V.d (.str []), V.d (.int .i64 0)]))) ((s 0) :: [(s 0)]) ∧
V.undef = V.undef ∧ (demand (nilcV (s 0)) (fun x16 => quietV (upd o 2 (some (Ob.box [V.d (.int .i64 0), V.d (.str []), V.d (.int .i64 0)]))) (x16 :: [(s 0)]) ∧
V.undef = V.undef ∧ (demand (faddrV 2 x16) (fun x17 => quietV (upd o 2 (some (Ob.box [V.d (.int .i64 0), V.d (.str []), V.d (.int .i64 0)]))) (x17 :: [x16]) ∧
V.undef = V.undef ∧ (demand (loadV (upd o 2 (some (Ob.box [V.d (.int .i64 0), V.d (.str []), V.d (.int .i64 0)]))) none x17) (fun x18 => quietV (upd o 2 (some (Ob.box [V.d (.int .i64 0), V.d (.str []), V.d (.int .i64 0)]))) (x18 :: [x17]) ∧
V.undef = V.undef ∧ (demand (iaddrV (upd o 2 (some (Ob.box [V.d (.int .i64 0), V.d (.str []), V.d (.int .i64 0)]))) 3 x14 x18) (fun x19 => quietV (upd o 2 (some (Ob.box [V.d (.int .i64 0), V.d (.str []), V.d (.int .i64 0)]))) (x19 :: [x14, x18]) ∧
V.undef = V.undef ∧ (demand (loadV (upd o 2 (some (Ob.box [V.d (.int .i64 0), V.d (.str []), V.d (.int .i64 0)]))) (some 3) x19) (fun x20 => quietV (upd o 2 (some (Ob.box [V.d (.int .i64 0), V.d (.str []), V.d (.int .i64 0)]))) (x20 :: [x19]) ∧
(([] : List Nat) = [] ∧ (storeK (V.ptr 2 0) (cellsV x20) 3 (upd o 2 (some (Ob.box [V.d (.int .i64 0), V.d (.str []), V.d (.int .i64 0)]))) (fun m21 ob22 =>
Q .ret (St.mk (look [(2, (V.ptr 2 0))]) (upd (upd o 2 (some (Ob.box [V.d (.int .i64 0), V.d (.str []), V.d (.int .i64 0)]))) m21 (some ob22)))))))))))))))))))))))))
 (wpB C I R_c0 (St.mk (look [(0, s 0), (2, (V.ptr 2 0)), (12, x10)]) (upd o 2 (some (Ob.box [V.d (.int .i64 0), V.d (.str []), V.d (.int .i64 0)])))) Q))))))))))))))))))))) := rfl
@[instance] theorem g_tree_parser_token_code_u : UnfAt (wpB C I g_tree_parser_token.code (St.mk s o) Q) g_tree_parser_token_code_sh := Unf.of _
theorem g_slices_Contains_string_code_sh : wpB C I (g_slices_Contains_string.code) (St.mk s o) Q =
 (callK C I (St.mk (upd (upd (look [(0, s 0), (1, s 1)]) 5 (s 0)) 6 (s 1)) (looko ([].map fun n => (n, o n)))) (some 7) 156 [(s 0), (s 1)] (fun r1 or1 =>
demand (binV BinOp.geq r1 (V.d (.int .i64 0))) (fun x2 =>
Q .ret (St.mk (look [(4, x2)]) (looko ([].map fun n => (n, or1 n))))))) := rfl
@[instance] theorem g_slices_Contains_string_code_u : UnfAt (wpB C I g_slices_Contains_string.code (St.mk s o) Q) g_slices_Contains_string_code_sh := Unf.of _
theorem g_tree_kinds_code_sh : wpB C I (g_tree_kinds.code) (St.mk s o) Q =
 (lstK (partsN 1 [(V.d (.str [101, 97, 114, 110])), (V.d (.str [112, 114, 101, 116, 97, 120])), (V.d (.str [112, 111, 115, 116])), (V.d (.str [108, 101, 116]))]) (fun es1 => ¬ I 1 ∧ Fresh (St.mk (look []) (looko ([].map fun n => (n, o n)))) 1 (some 1) ∧
Q .ret (St.mk (look [(0, (V.own 1))]) (looko ([1].map fun n => (n, (upd (looko ([].map fun n => (n, o n))) 1 (some (Ob.row 1 es1))) n)))))) := rfl
@[instance] theorem g_tree_kinds_code_u : UnfAt (wpB C I g_tree_kinds.code (St.mk s o) Q) g_tree_kinds_code_sh := Unf.of _
theorem g_tree_parser_fail_code_sh : wpB C I (g_tree_parser_fail.code) (St.mk s o) Q =
 (demand (nilcV (s 0)) (fun x1 =>
demand (faddrV 5 x1) (fun x2 =>
demand (loadV o none x2) (fun x3 =>
demand (binV BinOp.eql x3 (V.d (.int .i64 0))) (fun x4 =>
condK x4
 (callK C I (St.mk (upd (upd (upd (upd (look [(0, s 0), (1, s 1), (8, x4)]) 9 (s 0)) 10 (s 0)) 11 (s 1)) 12 (s 0)) o) (some 13) 217 [(s 0)] (fun r5 or5 =>
demand (fldV 2 none r5) (fun x6 =>
demand (nilcV (s 0)) (fun x7 =>
demand (faddrV 5 x7) (fun x8 =>
storeK x8 (cellsV (s 1)) 1 or5 (fun m9 ob10 =>
demand (nilcV (s 0)) (fun x11 =>
demand (faddrV 6 x11) (fun x12 =>
storeK x12 (cellsV x6) 1 (upd or5 m9 (some ob10)) (fun m13 ob14 =>
Q .normal (St.mk (look []) (upd (upd or5 m9 (some ob10)) m13 (some ob14))))))))))))
 (Q .normal (St.mk (look [(0, s 0), (1, s 1), (8, x4)]) o))))))) := rfl
@[instance] theorem g_tree_parser_fail_code_u : UnfAt (wpB C I g_tree_parser_fail.code (St.mk s o) Q) g_tree_parser_fail_code_sh := Unf.of _
theorem g_tree_parser_take_o5_sh : opsB C I (g_tree_parser_take.o5) (St.mk s o) K =
 (demand (pickV (s 24) (V.d (.bool true)) (s 29)) (fun x1 =>
K (St.mk (upd s 30 x1) o))) := rfl
@[instance] theorem g_tree_parser_take_o5_u : UnfAt (opsB C I g_tree_parser_take.o5 (St.mk s o) K) g_tree_parser_take_o5_sh := Unf.of _
theorem g_tree_parser_take_o4_sh : opsB C I (g_tree_parser_take.o4F R_o5) (St.mk s o) K =
 (guardK (s 24) false
 (demand (faddrV 1 (s 6)) (fun x1 =>
demand (loadV o none x1) (fun x2 =>
callK C I (St.mk (upd (upd (upd (upd (upd (upd (upd s 24 (V.d (D.bool false))) 25 (s 1)) 24 (V.d (D.bool false))) 26 x1) 24 (V.d (D.bool false))) 27 x2) 24 (V.d (D.bool false))) o) (some 28) 155 [(s 1), x2] (fun r3 or3 =>
demand (unV UnOp.not r3) (fun x4 =>
opsB C I R_o5 (St.mk (look [(0, s 0), (6, s 6), (24, (V.d (D.bool false))), (29, x4)]) or3) K)))))
 (opsB C I R_o5 (St.mk (look [(0, s 0), (6, s 6), (24, (V.d (D.bool true))), (29, (V.tup []))]) o) K)
 (opsB C I R_o5 (St.mk (look [(0, s 0), (6, s 6), (24, (V.tup [])), (29, (V.tup []))]) o) K)) := rfl
@[instance] theorem g_tree_parser_take_o4_u : UnfAt (opsB C I g_tree_parser_take.o4 (St.mk s o) K) g_tree_parser_take_o4_sh := Unf.of _
theorem g_tree_parser_take_o3_sh : opsB C I (g_tree_parser_take.o3F R_o4) (St.mk s o) K =
 (demand (pickV (s 14) (V.d (.bool true)) (s 22)) (fun x1 =>
opsB C I R_o4 (St.mk (look [(0, s 0), (1, s 1), (6, s 6), (24, x1)]) o) K)) := rfl
@[instance] theorem g_tree_parser_take_o3_u : UnfAt (opsB C I g_tree_parser_take.o3 (St.mk s o) K) g_tree_parser_take_o3_sh := Unf.of _
theorem g_tree_parser_take_o2_sh : opsB C I (g_tree_parser_take.o2F R_o3) (St.mk s o) K =
 (guardK (s 14) false
 (demand (pickV (s 18) (s 21) (V.d (.bool false))) (fun x1 =>
opsB C I R_o3 (St.mk (look [(0, s 0), (1, s 1), (6, s 6), (14, (V.d (D.bool false))), (22, x1)]) o) K))
 (opsB C I R_o3 (St.mk (look [(0, s 0), (1, s 1), (6, s 6), (14, (V.d (D.bool true))), (22, (V.tup []))]) o) K)
 (opsB C I R_o3 (St.mk (look [(0, s 0), (1, s 1), (6, s 6), (14, (V.tup [])), (22, (V.tup []))]) o) K)) := rfl
@[instance] theorem g_tree_parser_take_o2_u : UnfAt (opsB C I g_tree_parser_take.o2 (St.mk s o) K) g_tree_parser_take_o2_sh := Unf.of _
theorem g_tree_parser_take_o1_sh : opsB C I (g_tree_parser_take.o1F R_o2) (St.mk s o) K =
 (guardK (s 18) true
 (demand (faddrV 0 (s 6)) (fun x1 =>
demand (loadV o none x1) (fun x2 =>
demand (binV BinOp.neq x2 (V.d (.int .i64 5))) (fun x3 =>
opsB C I R_o2 (St.mk (look [(0, s 0), (1, s 1), (6, s 6), (14, s 14), (18, (V.d (D.bool true))), (21, x3)]) o) K))))
 (opsB C I R_o2 (St.mk (look [(0, s 0), (1, s 1), (6, s 6), (14, s 14), (18, (V.d (D.bool false))), (21, (V.tup []))]) o) K)
 (opsB C I R_o2 (St.mk (look [(0, s 0), (1, s 1), (6, s 6), (14, s 14), (18, (V.tup [])), (21, (V.tup []))]) o) K)) := rfl
@[instance] theorem g_tree_parser_take_o1_u : UnfAt (opsB C I g_tree_parser_take.o1 (St.mk s o) K) g_tree_parser_take_o1_sh := Unf.of _
theorem g_tree_parser_take_o0_sh : opsB C I (g_tree_parser_take.o0F R_o1) (St.mk s o) K =
 (guardK (s 14) false
 (demand (faddrV 0 (s 6)) (fun x1 =>
demand (loadV o none x1) (fun x2 =>
demand (binV BinOp.neq x2 (V.d (.int .i64 1))) (fun x3 =>
opsB C I R_o1 (St.mk (look [(0, s 0), (1, s 1), (6, s 6), (14, (V.d (D.bool false))), (18, x3)]) o) K))))
 (opsB C I R_o1 (St.mk (look [(0, s 0), (1, s 1), (6, s 6), (14, (V.d (D.bool true))), (18, (V.tup []))]) o) K)
 (opsB C I R_o1 (St.mk (look [(0, s 0), (1, s 1), (6, s 6), (14, (V.tup [])), (18, (V.tup []))]) o) K)) := rfl
@[instance] theorem g_tree_parser_take_o0_u : UnfAt (opsB C I g_tree_parser_take.o0 (St.mk s o) K) g_tree_parser_take_o0_sh := Unf.of _
theorem g_tree_parser_take_c0_sh : wpB C I (g_tree_parser_take.c0) (St.mk s o) Q =
 (condK (s 30)
 (Q .ret (St.mk (look [(4, (V.d (.str []))), (5, (V.d (.bool false)))]) o))
 (Q .normal (St.mk s o))) := rfl
@[instance] theorem g_tree_parser_take_c0_u : UnfAt (wpB C I g_tree_parser_take.c0 (St.mk s o) Q) g_tree_parser_take_c0_sh := Unf.of _
theorem g_tree_parser_take_c1_sh : wpB C I (g_tree_parser_take.c1) (St.mk s o) Q =
 (demand (faddrV 1 (s 6)) (fun x1 =>
demand (loadV o none x1) (fun x2 =>
Q .ret (St.mk (look [(4, x2), (5, (V.d (.bool true)))]) o)))) := rfl
@[instance] theorem g_tree_parser_take_c1_u : UnfAt (wpB C I g_tree_parser_take.c1 (St.mk s o) Q) g_tree_parser_take_c1_sh := Unf.of _
theorem g_tree_parser_take_c2_sh : wpB C I (g_tree_parser_take.c2F R_c1) (St.mk s o) Q =
 (demand (nilcV (s 0)) (fun x1 =>
demand (faddrV 2 x1) (fun x2 =>
demand (loadV o none x2) (fun x3 =>
demand (binV BinOp.add x3 (V.d (.int .i64 1))) (fun x4 =>
demand (nilcV (s 0)) (fun x5 =>
demand (faddrV 2 x5) (fun x6 =>
storeK x6 (cellsV x4) 1 o (fun m7 ob8 =>
wpB C I R_c1 (St.mk (look [(6, s 6)]) (upd o m7 (some ob8))) Q)))))))) := rfl
@[instance] theorem g_tree_parser_take_c2_u : UnfAt (wpB C I g_tree_parser_take.c2 (St.mk s o) Q) g_tree_parser_take_c2_sh := Unf.of _
theorem g_tree_parser_take_c3_sh : wpB C I (g_tree_parser_take.c3F R_o0 R_c0 R_c2) (St.mk s o) Q =
 (demand (nilcV (s 0)) (fun x1 =>
demand (faddrV 5 x1) (fun x2 =>
demand (loadV o none x2) (fun x3 =>
demand (binV BinOp.neq x3 (V.d (.int .i64 0))) (fun x4 =>
opsB C I R_o0 (St.mk (look [(0, s 0), (1, s 1), (6, s 6), (14, x4)]) o) (fun st => (seqK (fun st => wpB C I R_c0 st (seqK (fun st => wpB C I R_c2 st Q) Q)) (seqK (fun st => wpB C I R_c2 st Q) Q)) .normal (St.trim st [0, 6, 30] none))))))) := rfl
@[instance] theorem g_tree_parser_take_c3_u : UnfAt (wpB C I g_tree_parser_take.c3 (St.mk s o) Q) g_tree_parser_take_c3_sh := Unf.of _
theorem g_tree_parser_take_code_sh : wpB C I (g_tree_parser_take.codeF R_c3) (St.mk s o) Q =
 (callK C I (St.mk (upd (look [(0, s 0), (1, s 1)]) 7 (s 0)) o) (some 8) 217 [(s 0)] (fun r1 or1 =>
(¬ I 6 ∧ Fresh (St.mk (upd (upd (look [(0, s 0), (1, s 1)]) 7 (s 0)) 8 r1) or1) 6 (some 6) ∧ V.refsL 6 [V.d (.int .i64 0), V.d (.str []), V.d (.int .i64 0)] = false ∧
storeK (V.ptr 6 0) (cellsV r1) 3 (upd or1 6 (some (Ob.box [V.d (.int .i64 0), V.d (.str []), V.d (.int .i64 0)]))) (fun m2 ob3 =>
wpB C I R_c3 (St.mk (look [(0, s 0), (1, s 1), (6, (V.ptr 6 0))]) (upd (upd or1 6 (some (Ob.box [V.d (.int .i64 0), V.d (.str []), V.d (.int .i64 0)]))) m2 (some ob3))) Q)))) := rfl
@[instance] theorem g_tree_parser_take_code_u : UnfAt (wpB C I g_tree_parser_take.code (St.mk s o) Q) g_tree_parser_take_code_sh := Unf.of _
theorem g_tree_named_code_sh : wpB C I (g_tree_named.code) (St.mk s o) Q =
 (callK C I (St.mk (look [(0, s 0)]) (looko ([].map fun n => (n, o n)))) (some 3) 157 [] (fun r1 or1 =>
lstK (partsN 1 [(V.d (.str [105, 102])), (V.d (.str [116, 104, 101, 110])), (V.d (.str [101, 108, 115, 101])), (V.d (.str [109, 105, 110])), (V.d (.str [109, 97, 120]))]) (fun es2 =>
lstK (readD or1 (V.d (D.sl es2))) (fun ys3 => (∀ e ∈ ys3, e.length = 1) ∧ appK r1
 (ys3.length * 16 ≤ 140737488355328 ∧ ys3.length ≤ 140737488355328 ∧
callK C I (St.mk (upd (upd (upd (upd (look [(0, s 0)]) 3 r1) 4 (V.d (D.sl es2))) 5 (V.d (D.sl ys3))) 6 (s 0)) or1) (some 7) 155 [(V.d (D.sl ys3)), (s 0)] (fun r8 or8 =>
demand (unV UnOp.not r8) (fun x9 =>
Q .ret (St.mk (look [(2, x9)]) (looko ([].map fun n => (n, or8 n)))))))
 (fun m4 => ¬ I m4 ∧ rowK (or1 m4) (fun z5 es6 => z5 = 1 ∧ (es6.length + ys3.length) * 16 ≤ 140737488355328 ∧ es6.length + ys3.length ≤ 140737488355328 ∧
freeK (St.mk (upd (fun t => scrubV m4 ((upd (upd (look [(0, s 0)]) 3 r1) 4 (V.d (D.sl es2))) t)) 5 (V.own m4)) (upd (fun n => (or1 n).map (Ob.scrub m4)) m4 (some (Ob.row 1 (es6 ++ ys3))))) m4 (fun st7 =>
callK C I (St.mk (upd st7.s 6 (st7.s 0)) st7.o) (some 7) 155 [(st7.s 5), (st7.s 0)] (fun r10 or10 =>
demand (unV UnOp.not r10) (fun x11 =>
Q .ret (St.mk (look [(2, x11)]) (looko ([].map fun n => (n, or10 n))))))))))))) := rfl
@[instance] theorem g_tree_named_code_u : UnfAt (wpB C I g_tree_named.code (St.mk s o) Q) g_tree_named_code_sh := Unf.of _
theorem g_tree_parser_need_c0_sh : wpB C I (g_tree_parser_need.c0) (St.mk s o) Q =
 (demand (unV UnOp.not (s 5)) (fun x1 =>
condK x1
 (callK C I (St.mk (upd (look [(0, s 0), (14, x1)]) 15 (s 0)) o) (some 16) 218 [(s 0), (V.d (.int .i64 2))] (fun r2 or2 =>
Q .normal (St.mk (look []) or2)))
 (Q .normal (St.mk (look [(0, s 0), (14, x1)]) o)))) := rfl
@[instance] theorem g_tree_parser_need_c0_u : UnfAt (wpB C I g_tree_parser_need.c0 (St.mk s o) Q) g_tree_parser_need_c0_sh := Unf.of _
theorem g_tree_parser_need_code_sh : wpB C I (g_tree_parser_need.codeF R_c0) (St.mk s o) Q =
 (lstK (partsN 1 [(s 1)]) (fun es1 =>
callK C I (St.mk (upd (upd (upd s 7 (s 0)) 8 (s 1)) 9 (V.d (D.sl es1))) o) (some 10) 219 [(s 0), (V.d (D.sl es1))] (fun r2 or2 =>
demand (extV r2 0) (fun x3 =>
demand (extV r2 1) (fun x4 =>
wpB C I R_c0 (St.mk (look [(0, s 0), (5, x4)]) or2) Q))))) := rfl
@[instance] theorem g_tree_parser_need_code_u : UnfAt (wpB C I g_tree_parser_need.code (St.mk s o) Q) g_tree_parser_need_code_sh := Unf.of _
theorem g_tree_parser_expression_c0_sh : wpB C I (g_tree_parser_expression.c0) (St.mk s o) Q =
 (demand ((buildN [V.d (.str []), V.d (.str []), V.d (.int .i64 0), V.d (.int .i64 0), V.d (.int .i64 0), V.d (.int .i64 0)] [(0, 1, (V.d (.str [105, 102]))), (3, 1, (s 7)), (4, 1, (s 8)), (5, 1, (s 9))]).map V.agg) (fun x1 =>
callK C I (St.mk (upd (upd (upd (upd (upd s 46 (s 0)) 47 (s 7)) 48 (s 8)) 49 (s 9)) 50 x1) o) (some 51) 222 [(s 0), x1] (fun r2 or2 =>
Q .ret (St.mk (look [(4, r2)]) or2)))) := rfl
@[instance] theorem g_tree_parser_expression_c0_u : UnfAt (wpB C I g_tree_parser_expression.c0 (St.mk s o) Q) g_tree_parser_expression_c0_sh := Unf.of _
theorem g_tree_parser_expression_c1_sh : wpB C I (g_tree_parser_expression.c1F R_c0) (St.mk s o) Q =
 (callK C I (St.mk (upd s 40 (s 0)) o) (some 41) 220 [(s 0), (V.d (.str [101, 108, 115, 101]))] (fun r1 or1 =>
demand (binV BinOp.add (s 1) (V.d (.int .i64 1))) (fun x2 =>
callK C I (St.mk (upd (upd (upd (look [(0, s 0), (1, s 1), (7, s 7), (8, s 8)]) 42 (s 0)) 43 (s 1)) 44 x2) or1) (some 45) 221 [(s 0), x2] (fun r3 or3 =>
wpB C I R_c0 (St.mk (look [(0, s 0), (7, s 7), (8, s 8), (9, r3)]) or3) Q)))) := rfl
@[instance] theorem g_tree_parser_expression_c1_u : UnfAt (wpB C I g_tree_parser_expression.c1 (St.mk s o) Q) g_tree_parser_expression_c1_sh := Unf.of _
theorem g_tree_parser_expression_c2_sh : wpB C I (g_tree_parser_expression.c2F R_c1) (St.mk s o) Q =
 (callK C I (St.mk (upd s 34 (s 0)) o) (some 35) 220 [(s 0), (V.d (.str [116, 104, 101, 110]))] (fun r1 or1 =>
demand (binV BinOp.add (s 1) (V.d (.int .i64 1))) (fun x2 =>
callK C I (St.mk (upd (upd (upd (look [(0, s 0), (1, s 1), (7, s 7)]) 36 (s 0)) 37 (s 1)) 38 x2) or1) (some 39) 221 [(s 0), x2] (fun r3 or3 =>
wpB C I R_c1 (St.mk (look [(0, s 0), (1, s 1), (7, s 7), (8, r3)]) or3) Q)))) := rfl
@[instance] theorem g_tree_parser_expression_c2_u : UnfAt (wpB C I g_tree_parser_expression.c2 (St.mk s o) Q) g_tree_parser_expression_c2_sh := Unf.of _
theorem g_tree_parser_expression_c3_sh : wpB C I (g_tree_parser_expression.c3F R_c2) (St.mk s o) Q =
 (condK (s 6)
 (demand (binV BinOp.add (s 1) (V.d (.int .i64 1))) (fun x1 =>
callK C I (St.mk (upd (upd (upd (look [(0, s 0), (1, s 1), (29, s 6)]) 30 (s 0)) 31 (s 1)) 32 x1) o) (some 33) 221 [(s 0), x1] (fun r2 or2 =>
wpB C I R_c2 (St.mk (look [(0, s 0), (1, s 1), (7, r2)]) or2) Q)))
 (Q .normal (St.mk (look [(0, s 0), (1, s 1), (29, s 6)]) o))) := rfl
@[instance] theorem g_tree_parser_expression_c3_u : UnfAt (wpB C I g_tree_parser_expression.c3 (St.mk s o) Q) g_tree_parser_expression_c3_sh := Unf.of _
theorem g_tree_parser_expression_c4_sh : wpB C I (g_tree_parser_expression.c4) (St.mk s o) Q =
 (demand ((buildN [V.d (.str []), V.d (.str []), V.d (.int .i64 0), V.d (.int .i64 0), V.d (.int .i64 0), V.d (.int .i64 0)] [(0, 1, (s 11)), (3, 1, (s 10)), (4, 1, (s 13))]).map V.agg) (fun x1 =>
callK C I (St.mk (upd (upd (upd (upd (upd s 65 (s 0)) 66 (s 11)) 67 (s 10)) 68 (s 13)) 69 x1) o) (some 70) 222 [(s 0), x1] (fun r2 or2 =>
Q .ret (St.mk (look [(4, r2)]) or2)))) := rfl
@[instance] theorem g_tree_parser_expression_c4_u : UnfAt (wpB C I g_tree_parser_expression.c4 (St.mk s o) Q) g_tree_parser_expression_c4_sh := Unf.of _
theorem g_tree_parser_expression_c5_sh : wpB C I (g_tree_parser_expression.c5F R_c4) (St.mk s o) Q =
 (condK (s 12)
 (callK C I (St.mk (upd (upd (look [(0, s 0), (1, s 1), (10, s 10), (11, s 11), (61, s 12)]) 62 (s 0)) 63 (s 1)) o) (some 64) 223 [(s 0), (s 1)] (fun r1 or1 =>
wpB C I R_c4 (St.mk (look [(0, s 0), (10, s 10), (11, s 11), (13, r1)]) or1) Q))
 (Q .normal (St.mk (look [(0, s 0), (1, s 1), (10, s 10), (11, s 11), (61, s 12)]) o))) := rfl
@[instance] theorem g_tree_parser_expression_c5_u : UnfAt (wpB C I g_tree_parser_expression.c5 (St.mk s o) Q) g_tree_parser_expression_c5_sh := Unf.of _
theorem g_tree_parser_expression_c6_sh : wpB C I (g_tree_parser_expression.c6) (St.mk s o) Q =
 (Q .ret (St.mk (look [(4, s 10)]) o)) := rfl
@[instance] theorem g_tree_parser_expression_c6_u : UnfAt (wpB C I g_tree_parser_expression.c6 (St.mk s o) Q) g_tree_parser_expression_c6_sh := Unf.of _
theorem g_tree_parser_expression_c7_sh : wpB C I (g_tree_parser_expression.c7F R_c5 R_c6) (St.mk s o) Q =
 (lstK (partsN 1 [(V.d (.str [60])), (V.d (.str [60, 61])), (V.d (.str [61])), (V.d (.str [60, 62])), (V.d (.str [62])), (V.d (.str [62, 61]))]) (fun es1 =>
callK C I (St.mk (upd (upd s 56 (s 0)) 57 (V.d (D.sl es1))) o) (some 58) 219 [(s 0), (V.d (D.sl es1))] (fun r2 or2 =>
demand (extV r2 0) (fun x3 =>
demand (extV r2 1) (fun x4 =>
wpB C I R_c5 (St.mk (look [(0, s 0), (1, s 1), (10, s 10), (11, x3), (12, x4)]) or2) (seqK (fun st => wpB C I R_c6 st Q) Q)))))) := rfl
@[instance] theorem g_tree_parser_expression_c7_u : UnfAt (wpB C I g_tree_parser_expression.c7 (St.mk s o) Q) g_tree_parser_expression_c7_sh := Unf.of _
theorem g_tree_parser_expression_c8_sh : wpB C I (g_tree_parser_expression.c8F R_c7) (St.mk s o) Q =
 (callK C I (St.mk (upd (upd s 52 (s 0)) 53 (s 1)) o) (some 54) 223 [(s 0), (s 1)] (fun r1 or1 =>
wpB C I R_c7 (St.mk (look [(0, s 0), (1, s 1), (10, r1)]) or1) Q)) := rfl
@[instance] theorem g_tree_parser_expression_c8_u : UnfAt (wpB C I g_tree_parser_expression.c8 (St.mk s o) Q) g_tree_parser_expression_c8_sh := Unf.of _
theorem g_tree_parser_expression_c9_sh : wpB C I (g_tree_parser_expression.c9F R_c3 R_c8) (St.mk s o) Q =
 (lstK (partsN 1 [(V.d (.str [105, 102]))]) (fun es1 =>
callK C I (St.mk (upd (upd s 24 (s 0)) 25 (V.d (D.sl es1))) o) (some 26) 219 [(s 0), (V.d (D.sl es1))] (fun r2 or2 =>
demand (extV r2 0) (fun x3 =>
demand (extV r2 1) (fun x4 =>
wpB C I R_c3 (St.mk (look [(0, s 0), (1, s 1), (6, x4)]) or2) (seqK (fun st => wpB C I R_c8 st Q) Q)))))) := rfl
@[instance] theorem g_tree_parser_expression_c9_u : UnfAt (wpB C I g_tree_parser_expression.c9 (St.mk s o) Q) g_tree_parser_expression_c9_sh := Unf.of _
theorem g_tree_parser_expression_c10_sh : wpB C I (g_tree_parser_expression.c10F R_c9) (St.mk s o) Q =
 (demand (nilcV (s 0)) (fun x1 =>
demand (faddrV 5 x1) (fun x2 =>
demand (loadV o none x2) (fun x3 =>
demand (binV BinOp.neq x3 (V.d (.int .i64 0))) (fun x4 =>
condK x4
 (Q .ret (St.mk (look [(4, (V.d (.int .i64 0)))]) o))
 (wpB C I R_c9 (St.mk (look [(0, s 0), (1, s 1), (22, x4)]) o) Q)))))) := rfl
@[instance] theorem g_tree_parser_expression_c10_u : UnfAt (wpB C I g_tree_parser_expression.c10 (St.mk s o) Q) g_tree_parser_expression_c10_sh := Unf.of _
theorem g_tree_parser_expression_code_sh : wpB C I (g_tree_parser_expression.codeF R_c10) (St.mk s o) Q =
 (demand (binV BinOp.gtr (s 1) (V.d (.int .i64 20))) (fun x1 =>
condK x1
 (callK C I (St.mk (upd (look [(0, s 0), (1, s 1), (15, x1)]) 16 (s 0)) o) (some 17) 218 [(s 0), (V.d (.int .i64 9))] (fun r2 or2 =>
wpB C I R_c10 (St.mk (look [(0, s 0), (1, s 1)]) or2) Q))
 (wpB C I R_c10 (St.mk (look [(0, s 0), (1, s 1), (15, x1)]) o) Q))) := rfl
@[instance] theorem g_tree_parser_expression_code_u : UnfAt (wpB C I g_tree_parser_expression.code (St.mk s o) Q) g_tree_parser_expression_code_sh := Unf.of _
theorem g_ref07_in_c0_sh : wpB C I (g_ref07_in.c0) (St.mk s o) Q =
 (demand (binV BinOp.add (s 5) (V.d (.int .i64 1))) (fun x1 =>
Q .normal (St.mk (look [(0, s 0), (1, s 1), (5, x1)]) (looko ([].map fun n => (n, o n)))))) := rfl
@[instance] theorem g_ref07_in_c0_u : UnfAt (wpB C I g_ref07_in.c0 (St.mk s o) Q) g_ref07_in_c0_sh := Unf.of _
theorem g_ref07_in_c1_sh : wpB C I (g_ref07_in.c1F R_c0) (St.mk s o) Q =
 (demand (idxV (s 1) (s 5)) (fun x1 =>
demand (binV BinOp.eql x1 (s 0)) (fun x2 =>
condK x2
 (Q .ret (St.mk (look [(4, (V.d (.bool true)))]) (looko ([].map fun n => (n, o n)))))
 (wpB C I R_c0 (St.mk (look [(0, s 0), (1, s 1), (5, s 5)]) (looko ([].map fun n => (n, o n)))) Q)))) := rfl
@[instance] theorem g_ref07_in_c1_u : UnfAt (wpB C I g_ref07_in.c1 (St.mk s o) Q) g_ref07_in_c1_sh := Unf.of _
theorem g_ref07_in_l0_sh (hL : R_l0 = g_ref07_in.l0F R_c1)
 (h : demand (lenSV (s 1)) (fun x1 =>
demand (binV BinOp.lss (s 5) x1) (fun x2 =>
condK x2
 (wpB C I R_c1 (St.mk (look [(0, s 0), (1, s 1), (5, s 5), (9, x2)]) (looko ([].map fun n => (n, o n)))) (seqK (fun s => wpB C I R_l0 s Q) Q))
 (Q (.exit 0) (St.mk (look [(0, s 0), (1, s 1), (5, s 5), (9, x2)]) (looko ([].map fun n => (n, o n)))))))) : wpB C I R_l0 (St.mk s o) Q := w_loopC hL h
theorem g_ref07_in_c2_sh : wpB C I (g_ref07_in.c2) (St.mk s o) Q =
 (Q .ret (St.mk (look [(4, (V.d (.bool false)))]) (looko ([].map fun n => (n, o n))))) := rfl
@[instance] theorem g_ref07_in_c2_u : UnfAt (wpB C I g_ref07_in.c2 (St.mk s o) Q) g_ref07_in_c2_sh := Unf.of _
theorem g_ref07_in_code_sh : wpB C I (g_ref07_in.codeF R_l0 R_c2) (St.mk s o) Q =
 (wpB C I R_l0 (St.mk (look [(0, s 0), (1, s 1), (5, (V.d (.int .i64 0)))]) (looko ([].map fun n => (n, o n)))) (blockK 0 [] (some []) (seqK (fun st => wpB C I R_c2 st Q) Q))) := rfl
@[instance] theorem g_ref07_in_code_u : UnfAt (wpB C I g_ref07_in.code (St.mk s o) Q) g_ref07_in_code_sh := Unf.of _
theorem g_ref07_end_o1_sh : opsB C I (g_ref07_end.o1) (St.mk s o) K =
 (demand (pickV (s 11) (s 16) (V.d (.bool false))) (fun x1 =>
K (St.mk (upd s 17 x1) o))) := rfl
@[instance] theorem g_ref07_end_o1_u : UnfAt (opsB C I g_ref07_end.o1 (St.mk s o) K) g_ref07_end_o1_sh := Unf.of _
theorem g_ref07_end_o0_sh : opsB C I (g_ref07_end.o0F R_o1) (St.mk s o) K =
 (guardK (s 11) true
 (demand (idxV (s 0) (s 1)) (fun x1 =>
callK C I (St.mk (upd (upd (upd (upd (upd (upd (upd (upd (upd s 11 (V.d (D.bool true))) 12 (s 0)) 11 (V.d (D.bool true))) 13 (s 1)) 11 (V.d (D.bool true))) 14 x1) 11 (V.d (D.bool true))) 15 (s 2)) 11 (V.d (D.bool true))) o) (some 16) 96 [x1, (s 2)] (fun r2 or2 =>
opsB C I R_o1 (St.mk (look [(0, s 0), (1, s 1), (2, s 2), (11, (V.d (D.bool true))), (16, r2)]) (looko ([].map fun n => (n, or2 n)))) K)))
 (opsB C I R_o1 (St.mk (look [(0, s 0), (1, s 1), (2, s 2), (11, (V.d (D.bool false))), (16, (V.tup []))]) (looko ([].map fun n => (n, o n)))) K)
 (opsB C I R_o1 (St.mk (look [(0, s 0), (1, s 1), (2, s 2), (11, (V.tup [])), (16, (V.tup []))]) (looko ([].map fun n => (n, o n)))) K)) := rfl
@[instance] theorem g_ref07_end_o0_u : UnfAt (opsB C I g_ref07_end.o0 (St.mk s o) K) g_ref07_end_o0_sh := Unf.of _
theorem g_ref07_end_c0_sh : wpB C I (g_ref07_end.c0) (St.mk s o) Q =
 (condK (s 17)
 (Q .normal (St.mk s o))
 (Q (.exit 0) (St.mk s o))) := rfl
@[instance] theorem g_ref07_end_c0_u : UnfAt (wpB C I g_ref07_end.c0 (St.mk s o) Q) g_ref07_end_c0_sh := Unf.of _
theorem g_ref07_end_c1_sh : wpB C I (g_ref07_end.c1) (St.mk s o) Q =
 (demand (binV BinOp.add (s 1) (V.d (.int .i64 1))) (fun x1 =>
Q .normal (St.mk (look [(0, s 0), (1, x1), (2, s 2)]) (looko ([].map fun n => (n, o n)))))) := rfl
@[instance] theorem g_ref07_end_c1_u : UnfAt (wpB C I g_ref07_end.c1 (St.mk s o) Q) g_ref07_end_c1_sh := Unf.of _
theorem g_ref07_end_l0_sh (hL : R_l0 = g_ref07_end.l0F R_o0 R_c0 R_c1)
 (h : demand (lenSV (s 0)) (fun x1 =>
demand (binV BinOp.lss (s 1) x1) (fun x2 =>
opsB C I R_o0 (St.mk (look [(0, s 0), (1, s 1), (2, s 2), (11, x2)]) (looko ([].map fun n => (n, o n)))) (fun st => (seqK (fun st => wpB C I R_c0 st (seqK (fun st => wpB C I R_c1 st (seqK (fun s => wpB C I R_l0 s Q) Q)) (seqK (fun s => wpB C I R_l0 s Q) Q))) (seqK (fun st => wpB C I R_c1 st (seqK (fun s => wpB C I R_l0 s Q) Q)) (seqK (fun s => wpB C I R_l0 s Q) Q))) .normal (St.trim st [0, 1, 2, 17] (some [])))))) : wpB C I R_l0 (St.mk s o) Q := w_loopC hL h
theorem g_ref07_end_c2_sh : wpB C I (g_ref07_end.c2) (St.mk s o) Q =
 (Q .ret (St.mk (look [(6, s 1)]) (looko ([].map fun n => (n, o n))))) := rfl
@[instance] theorem g_ref07_end_c2_u : UnfAt (wpB C I g_ref07_end.c2 (St.mk s o) Q) g_ref07_end_c2_sh := Unf.of _
theorem g_ref07_end_code_sh : wpB C I (g_ref07_end.codeF R_l0 R_c2) (St.mk s o) Q =
 (wpB C I R_l0 (St.mk (look [(0, s 0), (1, s 1), (2, s 2)]) (looko ([].map fun n => (n, o n)))) (blockK 0 [1] (some []) (seqK (fun st => wpB C I R_c2 st Q) Q))) := rfl
@[instance] theorem g_ref07_end_code_u : UnfAt (wpB C I g_ref07_end.code (St.mk s o) Q) g_ref07_end_code_sh := Unf.of _
theorem g_ref07_kind_c0_sh : wpB C I (g_ref07_kind.c0) (St.mk s o) Q =
 (condK (s 4)
 (Q .ret (St.mk (look [(2, (V.d (.int .i64 3)))]) (looko ([].map fun n => (n, o n)))))
 (condK (s 6)
 (Q .ret (St.mk (look [(2, (V.d (.int .i64 4)))]) (looko ([].map fun n => (n, o n)))))
 (callK C I (St.mk (upd (look [(0, s 0), (18, s 6)]) 19 (s 0)) (looko ([].map fun n => (n, o n)))) (some 20) 111 [(s 0)] (fun r1 or1 =>
condK r1
 (Q .ret (St.mk (look [(2, (V.d (.int .i64 2)))]) (looko ([].map fun n => (n, or1 n)))))
 (Q .ret (St.mk (look [(2, (V.d (.int .i64 0)))]) (looko ([].map fun n => (n, or1 n))))))))) := rfl
@[instance] theorem g_ref07_kind_c0_u : UnfAt (wpB C I g_ref07_kind.c0 (St.mk s o) Q) g_ref07_kind_c0_sh := Unf.of _
theorem g_ref07_kind_c1_sh : wpB C I (g_ref07_kind.c1F R_c0) (St.mk s o) Q =
 (callK C I (St.mk (upd s 13 (s 0)) o) (some 14) 93 [(s 0)] (fun r1 or1 =>
demand (extV r1 0) (fun x2 =>
demand (extV r1 1) (fun x3 =>
wpB C I R_c0 (St.mk (look [(0, s 0), (4, s 4), (6, x3)]) (looko ([].map fun n => (n, or1 n)))) Q)))) := rfl
@[instance] theorem g_ref07_kind_c1_u : UnfAt (wpB C I g_ref07_kind.c1 (St.mk s o) Q) g_ref07_kind_c1_sh := Unf.of _
theorem g_ref07_kind_code_sh : wpB C I (g_ref07_kind.codeF R_c1) (St.mk s o) Q =
 (callK C I (St.mk (upd (look [(0, s 0)]) 8 (s 0)) (looko ([].map fun n => (n, o n)))) (some 9) 52 [(s 0)] (fun r1 or1 =>
demand (extV r1 0) (fun x2 =>
demand (extV r1 1) (fun x3 =>
wpB C I R_c1 (St.mk (look [(0, s 0), (4, x3)]) (looko ([].map fun n => (n, or1 n)))) Q)))) := rfl
@[instance] theorem g_ref07_kind_code_u : UnfAt (wpB C I g_ref07_kind.code (St.mk s o) Q) g_ref07_kind_code_sh := Unf.of _
theorem g_ref08_chain_o1_sh : opsB C I (g_ref08_chain.o1) (St.mk s o) K =
 (demand (pickV (s 32) (s 37) (V.d (.bool false))) (fun x1 =>
K (St.mk (upd s 38 x1) o))) := rfl
@[instance] theorem g_ref08_chain_o1_u : UnfAt (opsB C I g_ref08_chain.o1 (St.mk s o) K) g_ref08_chain_o1_sh := Unf.of _
theorem g_ref08_chain_o0_sh : opsB C I (g_ref08_chain.o0F R_o1) (St.mk s o) K =
 (guardK (s 32) true
 (demand (loadV o (some 7) (s 3)) (fun x1 =>
callK C I (St.mk (upd (upd (upd s 32 (V.d (D.bool true))) 33 x1) 32 (V.d (D.bool true))) o) (some 34) 193 [x1] (fun r2 or2 =>
callK C I (St.mk (upd (upd (upd (upd (upd (upd (upd s 32 (V.d (D.bool true))) 33 x1) 32 (V.d (D.bool true))) 34 r2) 32 (V.d (D.bool true))) 35 (s 2)) 32 (V.d (D.bool true))) or2) (some 36) 215 [(s 2)] (fun r3 or3 =>
callK C I (St.mk (upd (upd (upd (upd (upd (upd (upd (upd (upd s 32 (V.d (D.bool true))) 33 x1) 32 (V.d (D.bool true))) 34 r2) 32 (V.d (D.bool true))) 35 (s 2)) 32 (V.d (D.bool true))) 36 r3) 32 (V.d (D.bool true))) or3) (some 37) 154 [r2, r3] (fun r4 or4 =>
opsB C I R_o1 (St.mk (look [(1, s 1), (2, s 2), (3, s 3), (6, s 6), (8, s 8), (32, (V.d (D.bool true))), (37, r4)]) (looko ([3, 6, 108].map fun n => (n, or4 n)))) K)))))
 (opsB C I R_o1 (St.mk (look [(1, s 1), (2, s 2), (3, s 3), (6, s 6), (8, s 8), (32, (V.d (D.bool false))), (37, (V.tup []))]) (looko ([3, 6, 108].map fun n => (n, o n)))) K)
 (opsB C I R_o1 (St.mk (look [(1, s 1), (2, s 2), (3, s 3), (6, s 6), (8, s 8), (32, (V.tup [])), (37, (V.tup []))]) (looko ([3, 6, 108].map fun n => (n, o n)))) K)) := rfl
@[instance] theorem g_ref08_chain_o0_u : UnfAt (opsB C I g_ref08_chain.o0 (St.mk s o) K) g_ref08_chain_o0_sh := Unf.of _
theorem g_ref08_chain_c0_sh : wpB C I (g_ref08_chain.c0) (St.mk s o) Q =
 (condK (s 38)
 (Q .normal (St.mk s o))
 (Q (.exit 0) (St.mk s o))) := rfl
@[instance] theorem g_ref08_chain_c0_u : UnfAt (wpB C I g_ref08_chain.c0 (St.mk s o) Q) g_ref08_chain_c0_sh := Unf.of _
theorem g_ref08_chain_c1_sh : wpB C I (g_ref08_chain.c1) (St.mk s o) Q =
 (demand (binV BinOp.eql (s 2) (V.d (.int .i64 0))) (fun x1 =>
condK x1
 (Q (.exit 0) (St.mk (look [(1, s 1), (2, s 2), (3, s 3), (6, s 6), (8, s 8), (65, x1)]) (looko ([3, 6, 108].map fun n => (n, o n)))))
 (Q .normal (St.mk (look [(1, s 1), (2, s 2), (3, s 3), (6, s 6), (8, s 8), (65, x1)]) (looko ([3, 6, 108].map fun n => (n, o n))))))) := rfl
@[instance] theorem g_ref08_chain_c1_u : UnfAt (wpB C I g_ref08_chain.c1 (St.mk s o) Q) g_ref08_chain_c1_sh := Unf.of _
theorem g_ref08_chain_c2_sh : wpB C I (g_ref08_chain.c2F R_c1) (St.mk s o) Q =
 (demand (loadV o (some 7) (s 12)) (fun x1 =>
storeK (s 3) (cellsV x1) 7 o (fun m2 ob3 =>
wpB C I R_c1 (St.mk (look [(1, s 1), (2, s 2), (3, s 3), (6, s 6), (8, s 13)]) (looko ([3, 6, 108].map fun n => (n, (upd o m2 (some ob3)) n)))) Q))) := rfl
@[instance] theorem g_ref08_chain_c2_u : UnfAt (wpB C I g_ref08_chain.c2 (St.mk s o) Q) g_ref08_chain_c2_sh := Unf.of _
theorem g_ref08_chain_c3_sh : wpB C I (g_ref08_chain.c3F R_c2) (St.mk s o) Q =
 (demand (loadV o (some 7) (s 10)) (fun x1 =>
demand ((buildN [V.d (.str []), V.d (.str []), V.d (.int .i64 0), V.d (.int .i64 0), V.d (.int .i64 0), V.d (.int .i64 0)] [(0, 1, (s 9)), (3, 1, (s 8)), (4, 1, (s 11))]).map V.agg) (fun x2 =>
callK C I (St.mk (upd (upd (upd (upd (upd s 54 x1) 55 (s 9)) 56 (s 8)) 57 (s 11)) 58 x2) o) (some 59) 209 [x1, x2] (fun r3 or3 =>
demand (extV r3 0) (fun x4 =>
demand (extV r3 1) (fun x5 =>
(¬ I 12 ∧ Fresh (St.mk (upd (upd (upd (upd (upd (upd (upd (upd (upd s 54 x1) 55 (s 9)) 56 (s 8)) 57 (s 11)) 58 x2) 59 r3) 53 r3) 60 x4) 61 x5) or3) 12 (some 12) ∧ V.refsL 12 [V.cap0, V.d (.int .i64 0), V.d (.int .i64 0), V.cap0, V.cap0, V.d (.int .i64 0), V.d (.int .i64 0)] = false ∧
storeK (V.ptr 12 0) (cellsV x4) 7 (upd or3 12 (some (Ob.box [V.cap0, V.d (.int .i64 0), V.d (.int .i64 0), V.cap0, V.cap0, V.d (.int .i64 0), V.d (.int .i64 0)]))) (fun m6 ob7 =>
wpB C I R_c2 (St.mk (look [(1, s 1), (2, s 2), (3, s 3), (6, s 6), (12, (V.ptr 12 0)), (13, x5)]) (looko ([3, 6, 12, 108].map fun n => (n, (upd (upd or3 12 (some (Ob.box [V.cap0, V.d (.int .i64 0), V.d (.int .i64 0), V.cap0, V.cap0, V.d (.int .i64 0), V.d (.int .i64 0)]))) m6 (some ob7)) n)))) Q)))))))) := rfl
@[instance] theorem g_ref08_chain_c3_u : UnfAt (wpB C I g_ref08_chain.c3 (St.mk s o) Q) g_ref08_chain_c3_sh := Unf.of _
theorem g_ref08_chain_c4_sh : wpB C I (g_ref08_chain.c4F R_c3) (St.mk s o) Q =
 (demand (loadV o (some 7) (s 3)) (fun x1 =>
demand (binV BinOp.add (s 2) (V.d (.int .i64 1))) (fun x2 =>
callK C I (St.mk (upd (upd (upd (upd s 46 x1) 47 (s 1)) 48 (s 2)) 49 x2) o) (some 50) 208 [x1, (s 1), x2] (fun r3 or3 =>
demand (extV r3 0) (fun x4 =>
demand (extV r3 1) (fun x5 =>
(¬ I 10 ∧ Fresh (St.mk (upd (upd (upd (upd (upd (upd (upd (upd s 46 x1) 47 (s 1)) 48 (s 2)) 49 x2) 50 r3) 45 r3) 51 x4) 52 x5) or3) 10 (some 10) ∧ V.refsL 10 [V.cap0, V.d (.int .i64 0), V.d (.int .i64 0), V.cap0, V.cap0, V.d (.int .i64 0), V.d (.int .i64 0)] = false ∧
storeK (V.ptr 10 0) (cellsV x4) 7 (upd or3 10 (some (Ob.box [V.cap0, V.d (.int .i64 0), V.d (.int .i64 0), V.cap0, V.cap0, V.d (.int .i64 0), V.d (.int .i64 0)]))) (fun m6 ob7 =>
wpB C I R_c3 (St.mk (look [(1, s 1), (2, s 2), (3, s 3), (6, s 6), (8, s 8), (9, s 9), (10, (V.ptr 10 0)), (11, x5)]) (looko ([3, 6, 10, 108].map fun n => (n, (upd (upd or3 10 (some (Ob.box [V.cap0, V.d (.int .i64 0), V.d (.int .i64 0), V.cap0, V.cap0, V.d (.int .i64 0), V.d (.int .i64 0)]))) m6 (some ob7)) n)))) Q)))))))) := rfl
@[instance] theorem g_ref08_chain_c4_u : UnfAt (wpB C I g_ref08_chain.c4 (St.mk s o) Q) g_ref08_chain_c4_sh := Unf.of _
theorem g_ref08_chain_c5_sh : wpB C I (g_ref08_chain.c5F R_c4) (St.mk s o) Q =
 (demand (loadV o (some 7) (s 3)) (fun x1 =>
callK C I (St.mk (upd s 39 x1) o) (some 40) 193 [x1] (fun r2 or2 =>
demand (faddrV 2 (s 3)) (fun x3 =>
demand (loadV (looko ([3, 6, 108].map fun n => (n, or2 n))) none x3) (fun x4 =>
demand (binV BinOp.add x4 (V.d (.int .i64 1))) (fun x5 =>
demand (faddrV 2 (s 3)) (fun x6 =>
storeK x6 (cellsV x5) 1 (looko ([3, 6, 108].map fun n => (n, or2 n))) (fun m7 ob8 =>
wpB C I R_c4 (St.mk (look [(1, s 1), (2, s 2), (3, s 3), (6, s 6), (8, s 8), (9, r2)]) (looko ([3, 6, 108].map fun n => (n, (upd (looko ([3, 6, 108].map fun n => (n, or2 n))) m7 (some ob8)) n)))) (blockK 1 [1, 2, 3, 6, 8] (some [3, 6, 108]) Q))))))))) := rfl
@[instance] theorem g_ref08_chain_c5_u : UnfAt (wpB C I g_ref08_chain.c5 (St.mk s o) Q) g_ref08_chain_c5_sh := Unf.of _
theorem g_ref08_chain_l0_sh (hL : R_l0 = g_ref08_chain.l0F R_o0 R_c0 R_c5)
 (h : demand (faddrV 5 (s 3)) (fun x1 =>
demand (loadV (looko ([3, 6, 108].map fun n => (n, o n))) none x1) (fun x2 =>
demand (binV BinOp.eql x2 (V.d (.int .i64 0))) (fun x3 =>
opsB C I R_o0 (St.mk (look [(1, s 1), (2, s 2), (3, s 3), (6, s 6), (8, s 8), (32, x3)]) (looko ([3, 6, 108].map fun n => (n, o n)))) (fun st => (seqK (fun st => wpB C I R_c0 st (seqK (fun st => wpB C I R_c5 st (seqK (fun s => wpB C I R_l0 s Q) Q)) (seqK (fun s => wpB C I R_l0 s Q) Q))) (seqK (fun st => wpB C I R_c5 st (seqK (fun s => wpB C I R_l0 s Q) Q)) (seqK (fun s => wpB C I R_l0 s Q) Q))) .normal (St.trim st [1, 2, 3, 6, 8, 38] (some [3, 6, 108]))))))) : wpB C I R_l0 (St.mk s o) Q := w_loopC hL h
theorem g_ref08_chain_c6_sh : wpB C I (g_ref08_chain.c6) (St.mk s o) Q =
 (demand (loadV o (some 7) (s 3)) (fun x1 =>
storeK (s 6) (cellsV x1) 7 o (fun m2 ob3 =>
Q .ret (St.mk (look [(6, s 6), (7, s 8)]) (looko ([6, 108].map fun n => (n, (upd o m2 (some ob3)) n))))))) := rfl
@[instance] theorem g_ref08_chain_c6_u : UnfAt (wpB C I g_ref08_chain.c6 (St.mk s o) Q) g_ref08_chain_c6_sh := Unf.of _
theorem g_ref08_chain_c7_sh : wpB C I (g_ref08_chain.c7F R_l0 R_c6) (St.mk s o) Q =
 (wpB C I R_l0 (St.mk s o) (blockK 0 [3, 6, 8] (some [3, 6, 108]) (seqK (fun st => wpB C I R_c6 st Q) Q))) := rfl
@[instance] theorem g_ref08_chain_c7_u : UnfAt (wpB C I g_ref08_chain.c7 (St.mk s o) Q) g_ref08_chain_c7_sh := Unf.of _
theorem g_ref08_chain_c8_sh : wpB C I (g_ref08_chain.c8F R_c7) (St.mk s o) Q =
 (demand (loadV o (some 7) (s 3)) (fun x1 =>
demand (binV BinOp.add (s 2) (V.d (.int .i64 1))) (fun x2 =>
callK C I (St.mk (upd (upd (upd (upd s 22 x1) 23 (s 1)) 24 (s 2)) 25 x2) o) (some 26) 208 [x1, (s 1), x2] (fun r3 or3 =>
demand (extV r3 0) (fun x4 =>
demand (extV r3 1) (fun x5 =>
storeK (s 3) (cellsV x4) 7 or3 (fun m6 ob7 =>
wpB C I R_c7 (St.mk (look [(1, s 1), (2, s 2), (3, s 3), (6, s 6), (8, x5)]) (looko ([3, 6, 108].map fun n => (n, (upd or3 m6 (some ob7)) n)))) Q))))))) := rfl
@[instance] theorem g_ref08_chain_c8_u : UnfAt (wpB C I g_ref08_chain.c8 (St.mk s o) Q) g_ref08_chain_c8_sh := Unf.of _
theorem g_ref08_chain_code_sh : wpB C I (g_ref08_chain.codeF R_c8) (St.mk s o) Q =
 (lstK (cellsV (s 0)) (fun c1 => c1.length = 7 ∧ ¬ I 3 ∧ Fresh (St.mk s o) 3 (some 3) ∧ V.refsL 3 c1 = false ∧
(¬ I 6 ∧ Fresh (St.mk (upd s 3 (V.ptr 3 0)) (upd o 3 (some (Ob.box c1)))) 6 (some 6) ∧ V.refsL 6 [V.cap0, V.d (.int .i64 0), V.d (.int .i64 0), V.cap0, V.cap0, V.d (.int .i64 0), V.d (.int .i64 0)] = false ∧
demand (binV BinOp.eql (s 2) (V.d (.int .i64 3))) (fun x2 =>
condK x2
 (demand (loadV (looko ([3, 6, 108].map fun n => (n, (upd (upd o 3 (some (Ob.box c1))) 6 (some (Ob.box [V.cap0, V.d (.int .i64 0), V.d (.int .i64 0), V.cap0, V.cap0, V.d (.int .i64 0), V.d (.int .i64 0)]))) n))) (some 7) (V.ptr 3 0)) (fun x3 =>
callK C I (St.mk (upd (upd (look [(1, s 1), (2, s 2), (3, (V.ptr 3 0)), (6, (V.ptr 6 0)), (15, x2)]) 16 x3) 17 (s 1)) (looko ([3, 6, 108].map fun n => (n, (upd (upd o 3 (some (Ob.box c1))) 6 (some (Ob.box [V.cap0, V.d (.int .i64 0), V.d (.int .i64 0), V.cap0, V.cap0, V.d (.int .i64 0), V.d (.int .i64 0)]))) n)))) (some 18) 214 [x3, (s 1)] (fun r4 or4 =>
demand (extV r4 0) (fun x5 =>
demand (extV r4 1) (fun x6 =>
storeK (V.ptr 6 0) (cellsV x5) 7 or4 (fun m7 ob8 =>
Q .ret (St.mk (look [(6, (V.ptr 6 0)), (7, x6)]) (looko ([6, 108].map fun n => (n, (upd or4 m7 (some ob8)) n))))))))))
 (wpB C I R_c8 (St.mk (look [(1, s 1), (2, s 2), (3, (V.ptr 3 0)), (6, (V.ptr 6 0)), (15, x2)]) (looko ([3, 6, 108].map fun n => (n, (upd (upd o 3 (some (Ob.box c1))) 6 (some (Ob.box [V.cap0, V.d (.int .i64 0), V.d (.int .i64 0), V.cap0, V.cap0, V.d (.int .i64 0), V.d (.int .i64 0)]))) n)))) Q))))) := rfl
@[instance] theorem g_ref08_chain_code_u : UnfAt (wpB C I g_ref08_chain.code (St.mk s o) Q) g_ref08_chain_code_sh := Unf.of _
theorem g_ref08_put_c0_sh : wpB C I (g_ref08_put.c0) (St.mk s o) Q =
 (demand (loadV o (some 7) (s 2)) (fun x1 =>
demand (lenV o (s 6)) (fun x2 =>
storeK (s 4) (cellsV x1) 7 o (fun m3 ob4 =>
Q .ret (St.mk (look [(4, s 4), (5, x2)]) (looko ([4, 108].map fun n => (n, (upd o m3 (some ob4)) n)))))))) := rfl
@[instance] theorem g_ref08_put_c0_u : UnfAt (wpB C I g_ref08_put.c0 (St.mk s o) Q) g_ref08_put_c0_sh := Unf.of _
theorem g_ref08_put_c1_sh : wpB C I (g_ref08_put.c1F R_c0) (St.mk s o) Q =
 (demand (loadV o (some 6) (s 3)) (fun x1 =>
lstK (partsN 6 [x1]) (fun es2 =>
lstK (readD o (V.d (D.sl es2))) (fun ys3 => (∀ e ∈ ys3, e.length = 6) ∧ appK (s 6)
 (False)
 (fun m4 => ¬ I m4 ∧ rowK (o m4) (fun z5 es6 => z5 = 6 ∧ (es6.length + ys3.length) * 64 ≤ 140737488355328 ∧ es6.length + ys3.length ≤ 140737488355328 ∧
freeK (St.mk (upd (upd (upd s 12 (s 6)) 13 x1) 14 (V.d (D.sl es2))) o) m4 (fun st7 =>
demand (faddrV 3 (st7.s 2)) (fun x8 =>
demand (faddrV 1 x8) (fun x9 =>
storeK x9 (cellsV (V.d (D.sl (es6 ++ ys3)))) 1 st7.o (fun m10 ob11 =>
wpB C I R_c0 (St.mk (look [(2, (st7.s 2)), (4, (st7.s 4)), (6, (st7.s 6))]) (looko ([2, 4, 11, 108].map fun n => (n, (upd st7.o m10 (some ob11)) n)))) Q)))))))))) := rfl
@[instance] theorem g_ref08_put_c1_u : UnfAt (wpB C I g_ref08_put.c1 (St.mk s o) Q) g_ref08_put_c1_sh := Unf.of _
theorem g_ref08_put_c2_sh : wpB C I (g_ref08_put.c2F R_c1) (St.mk s o) Q =
 (demand (faddrV 3 (s 2)) (fun x1 =>
demand (faddrV 1 x1) (fun x2 =>
demand (loadV (looko ([2, 3, 4, 11, 108].map fun n => (n, o n))) none x2) (fun x3 =>
lstK (readD (looko ([2, 3, 4, 11, 108].map fun n => (n, o n))) x3) (fun ys4 => (∀ e ∈ ys4, e.length = 6) ∧ appK (V.cap0)
 (ys4.length * 64 ≤ 140737488355328 ∧ ys4.length ≤ 140737488355328 ∧ ¬ I 11 ∧ Fresh (St.mk (upd (upd (upd (upd (look [(2, s 2), (3, s 3), (4, s 4), (6, (V.cap0))]) 7 (V.cap0)) 8 x1) 9 x2) 10 x3) (looko ([2, 3, 4, 11, 108].map fun n => (n, o n)))) 11 (some 11) ∧
wpB C I R_c1 (St.mk (look [(2, s 2), (3, s 3), (4, s 4), (6, (V.own 11))]) (looko ([2, 3, 4, 11, 108].map fun n => (n, (upd (looko ([2, 3, 4, 11, 108].map fun n => (n, o n))) 11 (some (Ob.row 6 ys4))) n)))) Q)
 (fun m5 => ¬ I m5 ∧ rowK ((looko ([2, 3, 4, 11, 108].map fun n => (n, o n))) m5) (fun z6 es7 => z6 = 6 ∧ (es7.length + ys4.length) * 64 ≤ 140737488355328 ∧ es7.length + ys4.length ≤ 140737488355328 ∧
wpB C I R_c1 (St.mk (look [(2, (scrubV m5 (s 2))), (3, (scrubV m5 (s 3))), (4, (scrubV m5 (s 4))), (6, (V.own m5))]) (looko ([2, 3, 4, 11, 108].map fun n => (n, (upd (fun n => ((looko ([2, 3, 4, 11, 108].map fun n => (n, o n))) n).map (Ob.scrub m5)) m5 (some (Ob.row 6 (es7 ++ ys4)))) n)))) Q))))))) := rfl
@[instance] theorem g_ref08_put_c2_u : UnfAt (wpB C I g_ref08_put.c2 (St.mk s o) Q) g_ref08_put_c2_sh := Unf.of _
theorem g_ref08_put_code_sh : wpB C I (g_ref08_put.codeF R_c2) (St.mk s o) Q =
 (lstK (cellsV (s 0)) (fun c1 => c1.length = 7 ∧ ¬ I 2 ∧ Fresh (St.mk s o) 2 (some 2) ∧ V.refsL 2 c1 = false ∧
lstK (cellsV (s 1)) (fun c2 => c2.length = 6 ∧ ¬ I 3 ∧ Fresh (St.mk (upd s 2 (V.ptr 2 0)) (upd o 2 (some (Ob.box c1)))) 3 (some 3) ∧ V.refsL 3 c2 = false ∧
(¬ I 4 ∧ Fresh (St.mk (upd (upd s 2 (V.ptr 2 0)) 3 (V.ptr 3 0)) (upd (upd o 2 (some (Ob.box c1))) 3 (some (Ob.box c2)))) 4 (some 4) ∧ V.refsL 4 [V.cap0, V.d (.int .i64 0), V.d (.int .i64 0), V.cap0, V.cap0, V.d (.int .i64 0), V.d (.int .i64 0)] = false ∧
wpB C I R_c2 (St.mk (look [(2, (V.ptr 2 0)), (3, (V.ptr 3 0)), (4, (V.ptr 4 0))]) (looko ([2, 3, 4, 108].map fun n => (n, (upd (upd (upd o 2 (some (Ob.box c1))) 3 (some (Ob.box c2))) 4 (some (Ob.box [V.cap0, V.d (.int .i64 0), V.d (.int .i64 0), V.cap0, V.cap0, V.d (.int .i64 0), V.d (.int .i64 0)]))) n)))) Q)))) := rfl
@[instance] theorem g_ref08_put_code_u : UnfAt (wpB C I g_ref08_put.code (St.mk s o) Q) g_ref08_put_code_sh := Unf.of _
theorem g_lex_letter_o1_sh : opsB C I (g_lex_letter.o1) (St.mk s o) K =
 (demand (pickV (s 5) (s 7) (V.d (.bool false))) (fun x1 =>
K (St.mk (upd (upd s 8 x1) 2 x1) o))) := rfl
@[instance] theorem g_lex_letter_o1_u : UnfAt (opsB C I g_lex_letter.o1 (St.mk s o) K) g_lex_letter_o1_sh := Unf.of _
theorem g_lex_letter_o0_sh : opsB C I (g_lex_letter.o0F R_o1) (St.mk s o) K =
 (guardK (s 5) true
 (demand (binV BinOp.leq (s 0) (V.d (.int .u8 122))) (fun x1 =>
opsB C I R_o1 (St.mk (look [(5, (V.d (D.bool true))), (7, x1)]) (looko ([].map fun n => (n, o n)))) K))
 (opsB C I R_o1 (St.mk (look [(5, (V.d (D.bool false))), (7, (V.tup []))]) (looko ([].map fun n => (n, o n)))) K)
 (opsB C I R_o1 (St.mk (look [(5, (V.tup [])), (7, (V.tup []))]) (looko ([].map fun n => (n, o n)))) K)) := rfl
@[instance] theorem g_lex_letter_o0_u : UnfAt (opsB C I g_lex_letter.o0 (St.mk s o) K) g_lex_letter_o0_sh := Unf.of _
theorem g_lex_letter_c0_sh : wpB C I (g_lex_letter.c0) (St.mk s o) Q =
 (Q .ret (St.mk s o)) := rfl
@[instance] theorem g_lex_letter_c0_u : UnfAt (wpB C I g_lex_letter.c0 (St.mk s o) Q) g_lex_letter_c0_sh := Unf.of _
theorem g_lex_letter_code_sh : wpB C I (g_lex_letter.codeF R_o0 R_c0) (St.mk s o) Q =
 (demand (binV BinOp.geq (s 0) (V.d (.int .u8 97))) (fun x1 =>
opsB C I R_o0 (St.mk (look [(0, s 0), (5, x1)]) (looko ([].map fun n => (n, o n)))) (fun st => (seqK (fun st => wpB C I R_c0 st Q) Q) .normal (St.trim st [2] (some []))))) := rfl
@[instance] theorem g_lex_letter_code_u : UnfAt (wpB C I g_lex_letter.code (St.mk s o) Q) g_lex_letter_code_sh := Unf.of _
theorem g_lex_one_1_o1_sh : opsB C I (g_lex_one_1.o1) (St.mk s o) K =
 (demand (pickV (s 5) (V.d (.bool true)) (s 7)) (fun x1 =>
K (St.mk (upd (upd s 8 x1) 2 x1) o))) := rfl
@[instance] theorem g_lex_one_1_o1_u : UnfAt (opsB C I g_lex_one_1.o1 (St.mk s o) K) g_lex_one_1_o1_sh := Unf.of _
theorem g_lex_one_1_o0_sh : opsB C I (g_lex_one_1.o0F R_o1) (St.mk s o) K =
 (guardK (s 5) false
 (callK C I (St.mk (upd (upd (upd s 5 (V.d (D.bool false))) 6 (s 0)) 5 (V.d (D.bool false))) o) (some 7) 107 [(s 0)] (fun r1 or1 =>
opsB C I R_o1 (St.mk (look [(5, (V.d (D.bool false))), (7, r1)]) (looko ([].map fun n => (n, or1 n)))) K))
 (opsB C I R_o1 (St.mk (look [(5, (V.d (D.bool true))), (7, (V.tup []))]) (looko ([].map fun n => (n, o n)))) K)
 (opsB C I R_o1 (St.mk (look [(5, (V.tup [])), (7, (V.tup []))]) (looko ([].map fun n => (n, o n)))) K)) := rfl
@[instance] theorem g_lex_one_1_o0_u : UnfAt (opsB C I g_lex_one_1.o0 (St.mk s o) K) g_lex_one_1_o0_sh := Unf.of _
theorem g_lex_one_1_c0_sh : wpB C I (g_lex_one_1.c0) (St.mk s o) Q =
 (Q .ret (St.mk s o)) := rfl
@[instance] theorem g_lex_one_1_c0_u : UnfAt (wpB C I g_lex_one_1.c0 (St.mk s o) Q) g_lex_one_1_c0_sh := Unf.of _
theorem g_lex_one_1_code_sh : wpB C I (g_lex_one_1.codeF R_o0 R_c0) (St.mk s o) Q =
 (callK C I (St.mk (upd (look [(0, s 0)]) 3 (s 0)) (looko ([].map fun n => (n, o n)))) (some 4) 105 [(s 0)] (fun r1 or1 =>
opsB C I R_o0 (St.mk (look [(0, s 0), (5, r1)]) (looko ([].map fun n => (n, or1 n)))) (fun st => (seqK (fun st => wpB C I R_c0 st Q) Q) .normal (St.trim st [2] (some []))))) := rfl
@[instance] theorem g_lex_one_1_code_u : UnfAt (wpB C I g_lex_one_1.code (St.mk s o) Q) g_lex_one_1_code_sh := Unf.of _
theorem g_lex_digit_o1_sh : opsB C I (g_lex_digit.o1) (St.mk s o) K =
 (demand (pickV (s 5) (s 7) (V.d (.bool false))) (fun x1 =>
K (St.mk (upd (upd s 8 x1) 2 x1) o))) := rfl
@[instance] theorem g_lex_digit_o1_u : UnfAt (opsB C I g_lex_digit.o1 (St.mk s o) K) g_lex_digit_o1_sh := Unf.of _
theorem g_lex_digit_o0_sh : opsB C I (g_lex_digit.o0F R_o1) (St.mk s o) K =
 (guardK (s 5) true
 (demand (binV BinOp.leq (s 0) (V.d (.int .u8 57))) (fun x1 =>
opsB C I R_o1 (St.mk (look [(5, (V.d (D.bool true))), (7, x1)]) (looko ([].map fun n => (n, o n)))) K))
 (opsB C I R_o1 (St.mk (look [(5, (V.d (D.bool false))), (7, (V.tup []))]) (looko ([].map fun n => (n, o n)))) K)
 (opsB C I R_o1 (St.mk (look [(5, (V.tup [])), (7, (V.tup []))]) (looko ([].map fun n => (n, o n)))) K)) := rfl
@[instance] theorem g_lex_digit_o0_u : UnfAt (opsB C I g_lex_digit.o0 (St.mk s o) K) g_lex_digit_o0_sh := Unf.of _
theorem g_lex_digit_c0_sh : wpB C I (g_lex_digit.c0) (St.mk s o) Q =
 (Q .ret (St.mk s o)) := rfl
@[instance] theorem g_lex_digit_c0_u : UnfAt (wpB C I g_lex_digit.c0 (St.mk s o) Q) g_lex_digit_c0_sh := Unf.of _
theorem g_lex_digit_code_sh : wpB C I (g_lex_digit.codeF R_o0 R_c0) (St.mk s o) Q =
 (demand (binV BinOp.geq (s 0) (V.d (.int .u8 48))) (fun x1 =>
opsB C I R_o0 (St.mk (look [(0, s 0), (5, x1)]) (looko ([].map fun n => (n, o n)))) (fun st => (seqK (fun st => wpB C I R_c0 st Q) Q) .normal (St.trim st [2] (some []))))) := rfl
@[instance] theorem g_lex_digit_code_u : UnfAt (wpB C I g_lex_digit.code (St.mk s o) Q) g_lex_digit_code_sh := Unf.of _
theorem g_lex_one_2_o3_sh : opsB C I (g_lex_one_2.o3) (St.mk s o) K =
 (demand (pickV (s 9) (V.d (.bool true)) (s 11)) (fun x1 =>
K (St.mk (upd (upd s 12 x1) 2 x1) o))) := rfl
@[instance] theorem g_lex_one_2_o3_u : UnfAt (opsB C I g_lex_one_2.o3 (St.mk s o) K) g_lex_one_2_o3_sh := Unf.of _
theorem g_lex_one_2_o2_sh : opsB C I (g_lex_one_2.o2F R_o3) (St.mk s o) K =
 (guardK (s 9) false
 (demand (binV BinOp.eql (s 0) (V.d (.int .u8 37))) (fun x1 =>
opsB C I R_o3 (St.mk (look [(9, (V.d (D.bool false))), (11, x1)]) (looko ([].map fun n => (n, o n)))) K))
 (opsB C I R_o3 (St.mk (look [(9, (V.d (D.bool true))), (11, (V.tup []))]) (looko ([].map fun n => (n, o n)))) K)
 (opsB C I R_o3 (St.mk (look [(9, (V.tup [])), (11, (V.tup []))]) (looko ([].map fun n => (n, o n)))) K)) := rfl
@[instance] theorem g_lex_one_2_o2_u : UnfAt (opsB C I g_lex_one_2.o2 (St.mk s o) K) g_lex_one_2_o2_sh := Unf.of _
theorem g_lex_one_2_o1_sh : opsB C I (g_lex_one_2.o1F R_o2) (St.mk s o) K =
 (demand (pickV (s 5) (V.d (.bool true)) (s 7)) (fun x1 =>
opsB C I R_o2 (St.mk (look [(0, s 0), (9, x1)]) (looko ([].map fun n => (n, o n)))) K)) := rfl
@[instance] theorem g_lex_one_2_o1_u : UnfAt (opsB C I g_lex_one_2.o1 (St.mk s o) K) g_lex_one_2_o1_sh := Unf.of _
theorem g_lex_one_2_o0_sh : opsB C I (g_lex_one_2.o0F R_o1) (St.mk s o) K =
 (guardK (s 5) false
 (demand (binV BinOp.eql (s 0) (V.d (.int .u8 46))) (fun x1 =>
opsB C I R_o1 (St.mk (look [(0, s 0), (5, (V.d (D.bool false))), (7, x1)]) (looko ([].map fun n => (n, o n)))) K))
 (opsB C I R_o1 (St.mk (look [(0, s 0), (5, (V.d (D.bool true))), (7, (V.tup []))]) (looko ([].map fun n => (n, o n)))) K)
 (opsB C I R_o1 (St.mk (look [(0, s 0), (5, (V.tup [])), (7, (V.tup []))]) (looko ([].map fun n => (n, o n)))) K)) := rfl
@[instance] theorem g_lex_one_2_o0_u : UnfAt (opsB C I g_lex_one_2.o0 (St.mk s o) K) g_lex_one_2_o0_sh := Unf.of _
theorem g_lex_one_2_c0_sh : wpB C I (g_lex_one_2.c0) (St.mk s o) Q =
 (Q .ret (St.mk s o)) := rfl
@[instance] theorem g_lex_one_2_c0_u : UnfAt (wpB C I g_lex_one_2.c0 (St.mk s o) Q) g_lex_one_2_c0_sh := Unf.of _
theorem g_lex_one_2_code_sh : wpB C I (g_lex_one_2.codeF R_o0 R_c0) (St.mk s o) Q =
 (callK C I (St.mk (upd (look [(0, s 0)]) 3 (s 0)) (looko ([].map fun n => (n, o n)))) (some 4) 107 [(s 0)] (fun r1 or1 =>
opsB C I R_o0 (St.mk (look [(0, s 0), (5, r1)]) (looko ([].map fun n => (n, or1 n)))) (fun st => (seqK (fun st => wpB C I R_c0 st Q) Q) .normal (St.trim st [2] (some []))))) := rfl
@[instance] theorem g_lex_one_2_code_u : UnfAt (wpB C I g_lex_one_2.code (St.mk s o) Q) g_lex_one_2_code_sh := Unf.of _
theorem g_lex_figure_c0_sh : wpB C I (g_lex_figure.c0) (St.mk s o) Q =
 (condK (s 4)
 (Q .ret (St.mk (look [(2, (V.d (.int .i64 3)))]) (looko ([].map fun n => (n, o n)))))
 (Q .normal (St.mk (look [(0, s 0), (12, s 4)]) (looko ([].map fun n => (n, o n)))))) := rfl
@[instance] theorem g_lex_figure_c0_u : UnfAt (wpB C I g_lex_figure.c0 (St.mk s o) Q) g_lex_figure_c0_sh := Unf.of _
theorem g_lex_figure_c1_sh : wpB C I (g_lex_figure.c1) (St.mk s o) Q =
 (condK (s 6)
 (Q .ret (St.mk (look [(2, (V.d (.int .i64 4)))]) (looko ([].map fun n => (n, o n)))))
 (Q .normal (St.mk (look [(0, s 0), (18, s 6)]) (looko ([].map fun n => (n, o n)))))) := rfl
@[instance] theorem g_lex_figure_c1_u : UnfAt (wpB C I g_lex_figure.c1 (St.mk s o) Q) g_lex_figure_c1_sh := Unf.of _
theorem g_lex_figure_o5_sh : opsB C I (g_lex_figure.o5) (St.mk s o) K =
 (demand (pickV (s 29) (s 36) (V.d (.bool false))) (fun x1 =>
K (St.mk (upd s 37 x1) o))) := rfl
@[instance] theorem g_lex_figure_o5_u : UnfAt (opsB C I g_lex_figure.o5 (St.mk s o) K) g_lex_figure_o5_sh := Unf.of _
theorem g_lex_figure_o4_sh : opsB C I (g_lex_figure.o4F R_o5) (St.mk s o) K =
 (guardK (s 29) true
 (demand (pickV (s 32) (V.d (.bool true)) (s 35)) (fun x1 =>
opsB C I R_o5 (St.mk (look [(29, (V.d (D.bool true))), (36, x1)]) (looko ([].map fun n => (n, o n)))) K))
 (opsB C I R_o5 (St.mk (look [(29, (V.d (D.bool false))), (36, (V.tup []))]) (looko ([].map fun n => (n, o n)))) K)
 (opsB C I R_o5 (St.mk (look [(29, (V.tup [])), (36, (V.tup []))]) (looko ([].map fun n => (n, o n)))) K)) := rfl
@[instance] theorem g_lex_figure_o4_u : UnfAt (opsB C I g_lex_figure.o4 (St.mk s o) K) g_lex_figure_o4_sh := Unf.of _
theorem g_lex_figure_o3_sh : opsB C I (g_lex_figure.o3F R_o4) (St.mk s o) K =
 (guardK (s 32) false
 (demand (idxV (s 0) (V.d (.int .i64 0))) (fun x1 =>
demand (binV BinOp.neq x1 (V.d (.int .u8 48))) (fun x2 =>
opsB C I R_o4 (St.mk (look [(29, s 29), (32, (V.d (D.bool false))), (35, x2)]) (looko ([].map fun n => (n, o n)))) K)))
 (opsB C I R_o4 (St.mk (look [(29, s 29), (32, (V.d (D.bool true))), (35, (V.tup []))]) (looko ([].map fun n => (n, o n)))) K)
 (opsB C I R_o4 (St.mk (look [(29, s 29), (32, (V.tup [])), (35, (V.tup []))]) (looko ([].map fun n => (n, o n)))) K)) := rfl
@[instance] theorem g_lex_figure_o3_u : UnfAt (opsB C I g_lex_figure.o3 (St.mk s o) K) g_lex_figure_o3_sh := Unf.of _
theorem g_lex_figure_o2_sh : opsB C I (g_lex_figure.o2F R_o3) (St.mk s o) K =
 (guardK (s 29) true
 (demand (binV BinOp.eql (s 0) (V.d (.str [48]))) (fun x1 =>
opsB C I R_o3 (St.mk (look [(0, s 0), (29, (V.d (D.bool true))), (32, x1)]) (looko ([].map fun n => (n, o n)))) K))
 (opsB C I R_o3 (St.mk (look [(0, s 0), (29, (V.d (D.bool false))), (32, (V.tup []))]) (looko ([].map fun n => (n, o n)))) K)
 (opsB C I R_o3 (St.mk (look [(0, s 0), (29, (V.tup [])), (32, (V.tup []))]) (looko ([].map fun n => (n, o n)))) K)) := rfl
@[instance] theorem g_lex_figure_o2_u : UnfAt (opsB C I g_lex_figure.o2 (St.mk s o) K) g_lex_figure_o2_sh := Unf.of _
theorem g_lex_figure_o1_sh : opsB C I (g_lex_figure.o1F R_o2) (St.mk s o) K =
 (demand (pickV (s 22) (s 27) (V.d (.bool false))) (fun x1 =>
opsB C I R_o2 (St.mk (look [(0, s 0), (29, x1)]) (looko ([].map fun n => (n, o n)))) K)) := rfl
@[instance] theorem g_lex_figure_o1_u : UnfAt (opsB C I g_lex_figure.o1 (St.mk s o) K) g_lex_figure_o1_sh := Unf.of _
theorem g_lex_figure_o0_sh : opsB C I (g_lex_figure.o0F R_o1) (St.mk s o) K =
 (guardK (s 22) true
 (callK C I (St.mk (upd (upd (upd s 22 (V.d (D.bool true))) 23 (s 0)) 22 (V.d (D.bool true))) o) (some 24) 102 [(s 0), (V.d (.int .i64 0)), (V.fn 107 [])] (fun r1 or1 =>
demand (lenSV (s 0)) (fun x2 =>
demand (binV BinOp.eql r1 x2) (fun x3 =>
opsB C I R_o1 (St.mk (look [(0, s 0), (22, (V.d (D.bool true))), (27, x3)]) (looko ([].map fun n => (n, or1 n)))) K))))
 (opsB C I R_o1 (St.mk (look [(0, s 0), (22, (V.d (D.bool false))), (27, (V.tup []))]) (looko ([].map fun n => (n, o n)))) K)
 (opsB C I R_o1 (St.mk (look [(0, s 0), (22, (V.tup [])), (27, (V.tup []))]) (looko ([].map fun n => (n, o n)))) K)) := rfl
@[instance] theorem g_lex_figure_o0_u : UnfAt (opsB C I g_lex_figure.o0 (St.mk s o) K) g_lex_figure_o0_sh := Unf.of _
theorem g_lex_figure_c2_sh : wpB C I (g_lex_figure.c2) (St.mk s o) Q =
 (condK (s 37)
 (Q .ret (St.mk (look [(2, (V.d (.int .i64 2)))]) (looko ([].map fun n => (n, o n)))))
 (Q .normal (St.mk s o))) := rfl
@[instance] theorem g_lex_figure_c2_u : UnfAt (wpB C I g_lex_figure.c2 (St.mk s o) Q) g_lex_figure_c2_sh := Unf.of _
theorem g_lex_figure_c3_sh : wpB C I (g_lex_figure.c3) (St.mk s o) Q =
 (Q .ret (St.mk (look [(2, (V.d (.int .i64 0)))]) (looko ([].map fun n => (n, o n))))) := rfl
@[instance] theorem g_lex_figure_c3_u : UnfAt (wpB C I g_lex_figure.c3 (St.mk s o) Q) g_lex_figure_c3_sh := Unf.of _
theorem g_lex_figure_c4_sh : wpB C I (g_lex_figure.c4F R_o0 R_c2 R_c3) (St.mk s o) Q =
 (demand (lenSV (s 0)) (fun x1 =>
demand (binV BinOp.leq x1 (V.d (.int .i64 9))) (fun x2 =>
opsB C I R_o0 (St.mk (look [(0, s 0), (22, x2)]) (looko ([].map fun n => (n, o n)))) (fun st => (seqK (fun st => wpB C I R_c2 st (seqK (fun st => wpB C I R_c3 st Q) Q)) (seqK (fun st => wpB C I R_c3 st Q) Q)) .normal (St.trim st [37] (some [])))))) := rfl
@[instance] theorem g_lex_figure_c4_u : UnfAt (wpB C I g_lex_figure.c4 (St.mk s o) Q) g_lex_figure_c4_sh := Unf.of _
theorem g_lex_figure_c5_sh : wpB C I (g_lex_figure.c5F R_c1 R_c4) (St.mk s o) Q =
 (callK C I (St.mk (upd s 14 (s 0)) o) (some 15) 92 [(s 0)] (fun r1 or1 =>
demand (extV r1 0) (fun x2 =>
demand (extV r1 1) (fun x3 =>
wpB C I R_c1 (St.mk (look [(0, s 0), (6, x3)]) (looko ([].map fun n => (n, or1 n)))) (seqK (fun st => wpB C I R_c4 st Q) Q))))) := rfl
@[instance] theorem g_lex_figure_c5_u : UnfAt (wpB C I g_lex_figure.c5 (St.mk s o) Q) g_lex_figure_c5_sh := Unf.of _
theorem g_lex_figure_code_sh : wpB C I (g_lex_figure.codeF R_c0 R_c5) (St.mk s o) Q =
 (callK C I (St.mk (upd (look [(0, s 0)]) 8 (s 0)) (looko ([].map fun n => (n, o n)))) (some 9) 51 [(s 0)] (fun r1 or1 =>
demand (extV r1 0) (fun x2 =>
demand (extV r1 1) (fun x3 =>
wpB C I R_c0 (St.mk (look [(0, s 0), (4, x3)]) (looko ([].map fun n => (n, or1 n)))) (seqK (fun st => wpB C I R_c5 st Q) Q))))) := rfl
@[instance] theorem g_lex_figure_code_u : UnfAt (wpB C I g_lex_figure.code (St.mk s o) Q) g_lex_figure_code_sh := Unf.of _
theorem g_lex_sign_c0_sh : wpB C I (g_lex_sign.c0) (St.mk s o) Q =
 (demand (binV BinOp.add (s 7) (V.d (.int .i64 1))) (fun x1 =>
Q .normal (St.mk (look [(0, s 0), (5, s 5), (6, s 6), (7, x1)]) (looko ([].map fun n => (n, o n)))))) := rfl
@[instance] theorem g_lex_sign_c0_u : UnfAt (wpB C I g_lex_sign.c0 (St.mk s o) Q) g_lex_sign_c0_sh := Unf.of _
theorem g_lex_sign_l0_sh (hL : R_l0 = g_lex_sign.l0F R_c0)
 (h : demand (binV BinOp.lss (s 7) (s 6)) (fun x1 =>
condK x1
 (demand (iaddrV (looko ([].map fun n => (n, o n))) 1 (s 5) (s 7)) (fun x2 =>
demand (loadV (looko ([].map fun n => (n, o n))) none x2) (fun x3 =>
callK C I (St.mk (upd (upd (look [(0, s 0), (4, x3), (5, s 5), (6, s 6), (7, s 7)]) 11 (s 0)) 12 x3) (looko ([].map fun n => (n, o n)))) (some 13) 123 [(s 0), x3] (fun r4 or4 =>
condK r4
 (demand (lenSV x3) (fun x5 =>
Q .ret (St.mk (look [(2, x5)]) (looko ([].map fun n => (n, or4 n))))))
 (wpB C I R_c0 (St.mk (look [(0, s 0), (5, s 5), (6, s 6), (7, s 7)]) (looko ([].map fun n => (n, or4 n)))) (seqK (fun s => wpB C I R_l0 s Q) Q))))))
 (Q (.exit 0) (St.mk (look [(0, s 0), (5, s 5), (6, s 6), (7, s 7), (8, x1)]) (looko ([].map fun n => (n, o n))))))) : wpB C I R_l0 (St.mk s o) Q := w_loopC hL h
theorem g_lex_sign_c1_sh : wpB C I (g_lex_sign.c1) (St.mk s o) Q =
 (Q .ret (St.mk (look [(2, (V.d (.int .i64 0)))]) (looko ([].map fun n => (n, o n))))) := rfl
@[instance] theorem g_lex_sign_c1_u : UnfAt (wpB C I g_lex_sign.c1 (St.mk s o) Q) g_lex_sign_c1_sh := Unf.of _
theorem g_lex_sign_c2_sh : wpB C I (g_lex_sign.c2F R_c1) (St.mk s o) Q =
 (demand (idxV (s 0) (V.d (.int .i64 0))) (fun x1 =>
callK C I (St.mk (upd (upd s 17 (s 0)) 18 x1) o) (some 19) 124 [(V.d (.str [61, 60, 62, 43, 45, 42, 40, 41, 44, 59])), x1] (fun r2 or2 =>
demand (binV BinOp.geq r2 (V.d (.int .i64 0))) (fun x3 =>
condK x3
 (Q .ret (St.mk (look [(2, (V.d (.int .i64 1)))]) (looko ([].map fun n => (n, or2 n)))))
 (wpB C I R_c1 (St.mk (look [(20, x3)]) (looko ([].map fun n => (n, or2 n)))) Q))))) := rfl
@[instance] theorem g_lex_sign_c2_u : UnfAt (wpB C I g_lex_sign.c2 (St.mk s o) Q) g_lex_sign_c2_sh := Unf.of _
theorem g_lex_sign_code_sh : wpB C I (g_lex_sign.codeF R_l0 R_c2) (St.mk s o) Q =
 (lstK (partsN 1 [(V.d (.str [60, 61])), (V.d (.str [62, 61])), (V.d (.str [60, 62]))]) (fun es1 =>
demand (lenV (looko ([].map fun n => (n, o n))) (V.d (D.sl es1))) (fun x2 =>
wpB C I R_l0 (St.mk (look [(0, s 0), (5, (V.d (D.sl es1))), (6, x2), (7, (V.d (.int .i64 0)))]) (looko ([].map fun n => (n, o n)))) (blockK 0 [0] (some []) (seqK (fun st => wpB C I R_c2 st Q) Q))))) := rfl
@[instance] theorem g_lex_sign_code_u : UnfAt (wpB C I g_lex_sign.code (St.mk s o) Q) g_lex_sign_code_sh := Unf.of _
theorem g_slices_Index_string_c0_sh : wpB C I (g_slices_Index_string.c0) (St.mk s o) Q =
 (demand (binV BinOp.add (s 8) (V.d (.int .i64 1))) (fun x1 =>
Q .normal (St.mk (look [(0, s 0), (1, s 1), (7, s 7), (8, x1)]) (looko ([].map fun n => (n, o n)))))) := rfl
@[instance] theorem g_slices_Index_string_c0_u : UnfAt (wpB C I g_slices_Index_string.c0 (St.mk s o) Q) g_slices_Index_string_c0_sh := Unf.of _
theorem g_slices_Index_string_l0_sh (hL : R_l0 = g_slices_Index_string.l0F R_c0)
 (h : demand (binV BinOp.lss (s 8) (s 7)) (fun x1 =>
condK x1
 (demand (iaddrV (looko ([].map fun n => (n, o n))) 1 (s 0) (s 8)) (fun x2 =>
demand (loadV (looko ([].map fun n => (n, o n))) none x2) (fun x3 =>
demand (binV BinOp.eql (s 1) x3) (fun x4 =>
condK x4
 (Q .ret (St.mk (look [(4, s 8)]) (looko ([].map fun n => (n, o n)))))
 (wpB C I R_c0 (St.mk (look [(0, s 0), (1, s 1), (7, s 7), (8, s 8)]) (looko ([].map fun n => (n, o n)))) (seqK (fun s => wpB C I R_l0 s Q) Q))))))
 (Q (.exit 0) (St.mk (look [(0, s 0), (1, s 1), (7, s 7), (8, s 8), (9, x1)]) (looko ([].map fun n => (n, o n))))))) : wpB C I R_l0 (St.mk s o) Q := w_loopC hL h
theorem g_slices_Index_string_c1_sh : wpB C I (g_slices_Index_string.c1) (St.mk s o) Q =
 (Q .ret (St.mk (look [(4, (V.d (.int .i64 (-1))))]) (looko ([].map fun n => (n, o n))))) := rfl
@[instance] theorem g_slices_Index_string_c1_u : UnfAt (wpB C I g_slices_Index_string.c1 (St.mk s o) Q) g_slices_Index_string_c1_sh := Unf.of _
theorem g_slices_Index_string_code_sh : wpB C I (g_slices_Index_string.codeF R_l0 R_c1) (St.mk s o) Q =
 (demand (lenV (looko ([].map fun n => (n, o n))) (s 0)) (fun x1 =>
wpB C I R_l0 (St.mk (look [(0, s 0), (1, s 1), (7, x1), (8, (V.d (.int .i64 0)))]) (looko ([].map fun n => (n, o n)))) (blockK 0 [] (some []) (seqK (fun st => wpB C I R_c1 st Q) Q)))) := rfl
@[instance] theorem g_slices_Index_string_code_u : UnfAt (wpB C I g_slices_Index_string.code (St.mk s o) Q) g_slices_Index_string_code_sh := Unf.of _
theorem g_tree_parser_put_t5_sh : treeB C I g_tree_parser_put.a0 (.one 12 .done) (St.mk s o) K =
 ((([] : List Nat) = [] ∧ (storeK (s 16) (cellsV (s 13)) 1 o (fun m1 ob2 =>
K (St.mk s (upd o m1 (some ob2))))))) := rfl
@[instance] theorem g_tree_parser_put_t5_u : UnfAt (treeB C I g_tree_parser_put.a0 g_tree_parser_put.t5 (St.mk s o) K) g_tree_parser_put_t5_sh := Unf.of _
theorem g_tree_parser_put_t6_sh : treeB C I g_tree_parser_put.a0 (.one 11 R_t5) (St.mk s o) K =
 ((([] : List Nat) = [] ∧ (demand (faddrV 1 (s 15)) (fun x1 =>
treeB C I g_tree_parser_put.a0 R_t5 (St.mk (upd s 16 x1) o) K)))) := rfl
@[instance] theorem g_tree_parser_put_t6_u : UnfAt (treeB C I g_tree_parser_put.a0 g_tree_parser_put.t6 (St.mk s o) K) g_tree_parser_put_t6_sh := Unf.of _
theorem g_tree_parser_put_t7_sh : treeB C I g_tree_parser_put.a0 (.one 10 R_t6) (St.mk s o) K =
 ((([] : List Nat) = [] ∧ (demand (faddrV 3 (s 14)) (fun x1 =>
treeB C I g_tree_parser_put.a0 R_t6 (St.mk (upd s 15 x1) o) K)))) := rfl
@[instance] theorem g_tree_parser_put_t7_u : UnfAt (treeB C I g_tree_parser_put.a0 g_tree_parser_put.t7 (St.mk s o) K) g_tree_parser_put_t7_sh := Unf.of _
theorem g_tree_parser_put_t8_sh : treeB C I g_tree_parser_put.a0 (.one 9 R_t7) (St.mk s o) K =
 ((([] : List Nat) = [] ∧ (demand (nilcV (s 5)) (fun x1 =>
treeB C I g_tree_parser_put.a0 R_t7 (St.mk (upd s 14 x1) o) K)))) := rfl
@[instance] theorem g_tree_parser_put_t8_u : UnfAt (treeB C I g_tree_parser_put.a0 g_tree_parser_put.t8 (St.mk s o) K) g_tree_parser_put_t8_sh := Unf.of _
theorem g_tree_parser_put_t9_sh : treeB C I g_tree_parser_put.a0 (.one 8 R_t8) (St.mk s o) K =
 ((([] : List Nat) = [] ∧ (lstK (readD o (s 12)) (fun ys1 => (∀ e ∈ ys1, e.length = 6) ∧ appK (s 10)
 (ys1.length * 64 ≤ 140737488355328 ∧ ys1.length ≤ 140737488355328 ∧ ¬ I 13 ∧ Fresh (St.mk s o) 13 (some 13) ∧
treeB C I g_tree_parser_put.a0 R_t8 (St.mk (upd s 13 (V.own 13)) (upd o 13 (some (Ob.row 6 ys1)))) K)
 (fun m2 => ¬ I m2 ∧ rowK (o m2) (fun z3 es4 => z3 = 6 ∧ (es4.length + ys1.length) * 64 ≤ 140737488355328 ∧ es4.length + ys1.length ≤ 140737488355328 ∧
treeB C I g_tree_parser_put.a0 R_t8 (St.mk (upd (fun t => scrubV m2 (s t)) 13 (V.own m2)) (upd (fun n => (o n).map (Ob.scrub m2)) m2 (some (Ob.row 6 (es4 ++ ys1))))) K)))))) := rfl
@[instance] theorem g_tree_parser_put_t9_u : UnfAt (treeB C I g_tree_parser_put.a0 g_tree_parser_put.t9 (St.mk s o) K) g_tree_parser_put_t9_sh := Unf.of _
theorem g_tree_parser_put_t10_sh : treeB C I g_tree_parser_put.a0 (.one 7 R_t9) (St.mk s o) K =
 ((([] : List Nat) = [] ∧ (lstK (partsN 6 [(s 11)]) (fun es1 =>
treeB C I g_tree_parser_put.a0 R_t9 (St.mk (upd s 12 (V.d (D.sl es1))) o) K)))) := rfl
@[instance] theorem g_tree_parser_put_t10_u : UnfAt (treeB C I g_tree_parser_put.a0 g_tree_parser_put.t10 (St.mk s o) K) g_tree_parser_put_t10_sh := Unf.of _
theorem g_tree_parser_put_t11_sh : treeB C I g_tree_parser_put.a0 (.one 6 R_t10) (St.mk s o) K =
 ((([] : List Nat) = [] ∧ (demand (loadV o (some 6) (s 3)) (fun x1 =>
treeB C I g_tree_parser_put.a0 R_t10 (St.mk (upd s 11 x1) o) K)))) := rfl
@[instance] theorem g_tree_parser_put_t11_u : UnfAt (treeB C I g_tree_parser_put.a0 g_tree_parser_put.t11 (St.mk s o) K) g_tree_parser_put_t11_sh := Unf.of _
theorem g_tree_parser_put_t12_sh : treeB C I g_tree_parser_put.a0 (.one 5 R_t9) (St.mk s o) K =
 ((([] : List Nat) = [] ∧ (demand (loadV o none (s 9)) (fun x1 =>
treeB C I g_tree_parser_put.a0 R_t9 (St.mk (upd s 10 x1) o) K)))) := rfl
@[instance] theorem g_tree_parser_put_t12_u : UnfAt (treeB C I g_tree_parser_put.a0 g_tree_parser_put.t12 (St.mk s o) K) g_tree_parser_put_t12_sh := Unf.of _
theorem g_tree_parser_put_t13_sh : treeB C I g_tree_parser_put.a0 (.one 7 R_t12) (St.mk s o) K =
 ((([] : List Nat) = [] ∧ (lstK (partsN 6 [(s 11)]) (fun es1 =>
treeB C I g_tree_parser_put.a0 R_t12 (St.mk (upd s 12 (V.d (D.sl es1))) o) K)))) := rfl
@[instance] theorem g_tree_parser_put_t13_u : UnfAt (treeB C I g_tree_parser_put.a0 g_tree_parser_put.t13 (St.mk s o) K) g_tree_parser_put_t13_sh := Unf.of _
theorem g_tree_parser_put_t14_sh : treeB C I g_tree_parser_put.a0 (.two 5 R_t10 R_t13) (St.mk s o) K =
 ((([] : List Nat) = [] ∧ (demand (loadV o none (s 9)) (fun x1 =>
treeB C I g_tree_parser_put.a0 R_t10 (St.mk (upd s 10 x1) o) K))) ∧ treeB C I g_tree_parser_put.a0 R_t13 (St.mk s o) K) := rfl
@[instance] theorem g_tree_parser_put_t14_u : UnfAt (treeB C I g_tree_parser_put.a0 g_tree_parser_put.t14 (St.mk s o) K) g_tree_parser_put_t14_sh := Unf.of _
theorem g_tree_parser_put_t15_sh : treeB C I g_tree_parser_put.a0 (.one 6 R_t14) (St.mk s o) K =
 ((([] : List Nat) = [] ∧ (demand (loadV o (some 6) (s 3)) (fun x1 =>
treeB C I g_tree_parser_put.a0 R_t14 (St.mk (upd s 11 x1) o) K)))) := rfl
@[instance] theorem g_tree_parser_put_t15_u : UnfAt (treeB C I g_tree_parser_put.a0 g_tree_parser_put.t15 (St.mk s o) K) g_tree_parser_put_t15_sh := Unf.of _
theorem g_tree_parser_put_t16_sh : treeB C I g_tree_parser_put.a0 (.two 5 R_t11 R_t15) (St.mk s o) K =
 ((([] : List Nat) = [] ∧ (demand (loadV o none (s 9)) (fun x1 =>
treeB C I g_tree_parser_put.a0 R_t11 (St.mk (upd s 10 x1) o) K))) ∧ treeB C I g_tree_parser_put.a0 R_t15 (St.mk s o) K) := rfl
@[instance] theorem g_tree_parser_put_t16_u : UnfAt (treeB C I g_tree_parser_put.a0 g_tree_parser_put.t16 (St.mk s o) K) g_tree_parser_put_t16_sh := Unf.of _
theorem g_tree_parser_put_i4_sh : drawB C I g_tree_parser_put.a0 (4 :: []) R_t16 (St.mk s o) K =
 ((s 9) = V.undef ∧ (demand (faddrV 1 (s 8)) (fun x1 => quietV o (x1 :: [(s 8)]) ∧
treeB C I g_tree_parser_put.a0 R_t16 (St.mk (upd s 9 x1) o) K))) := rfl
@[instance] theorem g_tree_parser_put_i4_u : UnfAt (drawB C I g_tree_parser_put.a0 g_tree_parser_put.i4 g_tree_parser_put.t16 (St.mk s o) K) g_tree_parser_put_i4_sh := Unf.of _
theorem g_tree_parser_put_i3_sh : drawB C I g_tree_parser_put.a0 (3 :: R_i4) R_t16 (St.mk s o) K =
 ((s 8) = V.undef ∧ (demand (faddrV 3 (s 7)) (fun x1 => quietV o (x1 :: [(s 7)]) ∧
drawB C I g_tree_parser_put.a0 R_i4 R_t16 (St.mk (upd s 8 x1) o) K))) := rfl
@[instance] theorem g_tree_parser_put_i3_u : UnfAt (drawB C I g_tree_parser_put.a0 g_tree_parser_put.i3 g_tree_parser_put.t16 (St.mk s o) K) g_tree_parser_put_i3_sh := Unf.of _
theorem g_tree_parser_put_i2_sh : drawB C I g_tree_parser_put.a0 (2 :: R_i3) R_t16 (St.mk s o) K =
 ((s 7) = V.undef ∧ (demand (nilcV (s 6)) (fun x1 => quietV o (x1 :: [(s 6)]) ∧
drawB C I g_tree_parser_put.a0 R_i3 R_t16 (St.mk (upd s 7 x1) o) K))) := rfl
@[instance] theorem g_tree_parser_put_i2_u : UnfAt (drawB C I g_tree_parser_put.a0 g_tree_parser_put.i2 g_tree_parser_put.t16 (St.mk s o) K) g_tree_parser_put_i2_sh := Unf.of _
theorem g_tree_parser_put_i1_sh : drawB C I g_tree_parser_put.a0 (1 :: R_i2) R_t16 (St.mk s o) K =
 ((s 6) = V.undef ∧ (quietV o ((s 0) :: [(s 0)]) ∧
drawB C I g_tree_parser_put.a0 R_i2 R_t16 (St.mk (upd s 6 (s 0)) o) K)) := rfl
@[instance] theorem g_tree_parser_put_i1_u : UnfAt (drawB C I g_tree_parser_put.a0 g_tree_parser_put.i1 g_tree_parser_put.t16 (St.mk s o) K) g_tree_parser_put_i1_sh := Unf.of _
theorem g_tree_parser_put_c0_sh : wpB C I (g_tree_parser_put.c0) (St.mk s o) Q =
 (demand (nilcV (s 0)) (fun x1 =>
demand (faddrV 3 x1) (fun x2 =>
demand (faddrV 1 x2) (fun x3 =>
demand (loadV o none x3) (fun x4 =>
demand (lenV o x4) (fun x5 =>
demand (binV BinOp.sub x5 (V.d (.int .i64 1))) (fun x6 =>
Q .ret (St.mk (look [(4, x6)]) o)))))))) := rfl
@[instance] theorem g_tree_parser_put_c0_u : UnfAt (wpB C I g_tree_parser_put.c0 (St.mk s o) Q) g_tree_parser_put_c0_sh := Unf.of _
theorem g_tree_parser_put_code_sh : wpB C I (g_tree_parser_put.codeF R_i1 R_t16 R_c0) (St.mk s o) Q =
 (lstK (cellsV (s 1)) (fun c1 => c1.length = 6 ∧ ¬ I 3 ∧ Fresh (St.mk s o) 3 (some 3) ∧ V.refsL 3 c1 = false ∧
V.undef = V.undef ∧ (quietV (upd o 3 (some (Ob.box c1))) ((s 0) :: [(s 0)]) ∧
drawB C I g_tree_parser_put.a0 R_i1 R_t16 (St.mk (upd (look [(0, s 0), (3, (V.ptr 3 0))]) 5 (s 0)) (upd o 3 (some (Ob.box c1)))) (fun st => (seqK (fun st => wpB C I R_c0 st Q) Q) .normal (St.trim st [0] none))))) := rfl
@[instance] theorem g_tree_parser_put_code_u : UnfAt (wpB C I g_tree_parser_put.code (St.mk s o) Q) g_tree_parser_put_code_sh := Unf.of _
theorem g_tree_parser_sum_c0_sh : wpB C I (g_tree_parser_sum.c0) (St.mk s o) Q =
 (demand ((buildN [V.d (.str []), V.d (.str []), V.d (.int .i64 0), V.d (.int .i64 0), V.d (.int .i64 0), V.d (.int .i64 0)] [(0, 1, (s 6)), (3, 1, (s 5)), (4, 1, (s 8))]).map V.agg) (fun x1 =>
callK C I (St.mk (upd (upd (upd (upd (upd s 24 (s 0)) 25 (s 6)) 26 (s 5)) 27 (s 8)) 28 x1) o) (some 29) 222 [(s 0), x1] (fun r2 or2 =>
Q .normal (St.mk (look [(0, s 0), (1, s 1), (5, r2)]) or2)))) := rfl
@[instance] theorem g_tree_parser_sum_c0_u : UnfAt (wpB C I g_tree_parser_sum.c0 (St.mk s o) Q) g_tree_parser_sum_c0_sh := Unf.of _
theorem g_tree_parser_sum_c1_sh : wpB C I (g_tree_parser_sum.c1F R_c0) (St.mk s o) Q =
 (callK C I (St.mk (upd (upd s 21 (s 0)) 22 (s 1)) o) (some 23) 224 [(s 0), (s 1)] (fun r1 or1 =>
wpB C I R_c0 (St.mk (look [(0, s 0), (1, s 1), (5, s 5), (6, s 6), (8, r1)]) or1) Q)) := rfl
@[instance] theorem g_tree_parser_sum_c1_u : UnfAt (wpB C I g_tree_parser_sum.c1 (St.mk s o) Q) g_tree_parser_sum_c1_sh := Unf.of _
theorem g_tree_parser_sum_c2_sh : wpB C I (g_tree_parser_sum.c2F R_c1) (St.mk s o) Q =
 (demand (unV UnOp.not (s 7)) (fun x1 =>
condK x1
 (Q .ret (St.mk (look [(4, s 5)]) o))
 (wpB C I R_c1 (St.mk (look [(0, s 0), (1, s 1), (5, s 5), (6, s 6), (19, x1)]) o) Q))) := rfl
@[instance] theorem g_tree_parser_sum_c2_u : UnfAt (wpB C I g_tree_parser_sum.c2 (St.mk s o) Q) g_tree_parser_sum_c2_sh := Unf.of _
theorem g_tree_parser_sum_l0_sh (hL : R_l0 = g_tree_parser_sum.l0F R_c2)
 (h : lstK (partsN 1 [(V.d (.str [43])), (V.d (.str [45]))]) (fun es1 =>
callK C I (St.mk (upd (upd (look [(0, s 0), (1, s 1), (5, s 5)]) 13 (s 0)) 14 (V.d (D.sl es1))) o) (some 15) 219 [(s 0), (V.d (D.sl es1))] (fun r2 or2 =>
demand (extV r2 0) (fun x3 =>
demand (extV r2 1) (fun x4 =>
wpB C I R_c2 (St.mk (look [(0, s 0), (1, s 1), (5, s 5), (6, x3), (7, x4)]) or2) (blockK 1 [0, 1, 5] none (seqK (fun s => wpB C I R_l0 s Q) Q))))))) : wpB C I R_l0 (St.mk s o) Q := w_loopC hL h
theorem g_tree_parser_sum_c3_sh : wpB C I (g_tree_parser_sum.c3F R_l0) (St.mk s o) Q =
 (wpB C I R_l0 (St.mk s o) (blockK 0 [4] none Q)) := rfl
@[instance] theorem g_tree_parser_sum_c3_u : UnfAt (wpB C I g_tree_parser_sum.c3 (St.mk s o) Q) g_tree_parser_sum_c3_sh := Unf.of _
theorem g_tree_parser_sum_code_sh : wpB C I (g_tree_parser_sum.codeF R_c3) (St.mk s o) Q =
 (callK C I (St.mk (upd (upd (look [(0, s 0), (1, s 1)]) 9 (s 0)) 10 (s 1)) o) (some 11) 224 [(s 0), (s 1)] (fun r1 or1 =>
wpB C I R_c3 (St.mk (look [(0, s 0), (1, s 1), (5, r1)]) or1) Q)) := rfl
@[instance] theorem g_tree_parser_sum_code_u : UnfAt (wpB C I g_tree_parser_sum.code (St.mk s o) Q) g_tree_parser_sum_code_sh := Unf.of _
theorem g_ref01_Parse_o1_sh : opsB C I (g_ref01_Parse.o1) (St.mk s o) K =
 (demand (pickV (s 14) (s 17) (V.d (.bool false))) (fun x1 =>
K (St.mk (upd s 18 x1) o))) := rfl
@[instance] theorem g_ref01_Parse_o1_u : UnfAt (opsB C I g_ref01_Parse.o1 (St.mk s o) K) g_ref01_Parse_o1_sh := Unf.of _
theorem g_ref01_Parse_o0_sh : opsB C I (g_ref01_Parse.o0F R_o1) (St.mk s o) K =
 (guardK (s 14) true
 (demand (idxV (s 4) (V.d (.int .i64 0))) (fun x1 =>
demand (binV BinOp.eql x1 (V.d (.int .u8 45))) (fun x2 =>
opsB C I R_o1 (St.mk (look [(0, s 0), (4, s 4), (5, s 5), (14, (V.d (D.bool true))), (17, x2)]) (looko ([].map fun n => (n, o n)))) K)))
 (opsB C I R_o1 (St.mk (look [(0, s 0), (4, s 4), (5, s 5), (14, (V.d (D.bool false))), (17, (V.tup []))]) (looko ([].map fun n => (n, o n)))) K)
 (opsB C I R_o1 (St.mk (look [(0, s 0), (4, s 4), (5, s 5), (14, (V.tup [])), (17, (V.tup []))]) (looko ([].map fun n => (n, o n)))) K)) := rfl
@[instance] theorem g_ref01_Parse_o0_u : UnfAt (opsB C I g_ref01_Parse.o0 (St.mk s o) K) g_ref01_Parse_o0_sh := Unf.of _
theorem g_ref01_Parse_c0_sh : wpB C I (g_ref01_Parse.c0) (St.mk s o) Q =
 (condK (s 18)
 (demand (slcSV (s 4) (some (V.d (.int .i64 1))) none) (fun x1 =>
Q .normal (St.mk (look [(0, s 0), (4, x1), (5, (V.d (.bool true)))]) (looko ([].map fun n => (n, o n))))))
 (Q .normal (St.mk s o))) := rfl
@[instance] theorem g_ref01_Parse_c0_u : UnfAt (wpB C I g_ref01_Parse.c0 (St.mk s o) Q) g_ref01_Parse_c0_sh := Unf.of _
theorem g_ref01_Parse_o3_sh : opsB C I (g_ref01_Parse.o3) (St.mk s o) K =
 (demand (pickV (s 39) (V.d (.bool true)) (s 41)) (fun x1 =>
K (St.mk (upd s 42 x1) o))) := rfl
@[instance] theorem g_ref01_Parse_o3_u : UnfAt (opsB C I g_ref01_Parse.o3 (St.mk s o) K) g_ref01_Parse_o3_sh := Unf.of _
theorem g_ref01_Parse_o2_sh : opsB C I (g_ref01_Parse.o2F R_o3) (St.mk s o) K =
 (guardK (s 39) false
 (demand (binV BinOp.gtr (s 8) (V.d (.int .u8 57))) (fun x1 =>
opsB C I R_o3 (St.mk (look [(0, s 0), (4, s 4), (5, s 5), (6, s 6), (7, s 7), (8, s 8), (39, (V.d (D.bool false))), (41, x1)]) (looko ([].map fun n => (n, o n)))) K))
 (opsB C I R_o3 (St.mk (look [(0, s 0), (4, s 4), (5, s 5), (6, s 6), (7, s 7), (8, s 8), (39, (V.d (D.bool true))), (41, (V.tup []))]) (looko ([].map fun n => (n, o n)))) K)
 (opsB C I R_o3 (St.mk (look [(0, s 0), (4, s 4), (5, s 5), (6, s 6), (7, s 7), (8, s 8), (39, (V.tup [])), (41, (V.tup []))]) (looko ([].map fun n => (n, o n)))) K)) := rfl
@[instance] theorem g_ref01_Parse_o2_u : UnfAt (opsB C I g_ref01_Parse.o2 (St.mk s o) K) g_ref01_Parse_o2_sh := Unf.of _
theorem g_ref01_Parse_c1_sh : wpB C I (g_ref01_Parse.c1) (St.mk s o) Q =
 (condK (s 42)
 (Q .ret (St.mk (look [(2, (V.d (.int .i64 0))), (3, (V.d (.bool false)))]) (looko ([].map fun n => (n, o n)))))
 (Q .normal (St.mk s o))) := rfl
@[instance] theorem g_ref01_Parse_c1_u : UnfAt (wpB C I g_ref01_Parse.c1 (St.mk s o) Q) g_ref01_Parse_c1_sh := Unf.of _
theorem g_ref01_Parse_c2_sh : wpB C I (g_ref01_Parse.c2) (St.mk s o) Q =
 (demand (binV BinOp.mul (V.d (.int .i64 10)) (s 6)) (fun x1 =>
demand (binV BinOp.add x1 (s 9)) (fun x2 =>
Q .normal (St.mk (look [(0, s 0), (4, s 4), (5, s 5), (6, x2), (7, s 7)]) (looko ([].map fun n => (n, o n))))))) := rfl
@[instance] theorem g_ref01_Parse_c2_u : UnfAt (wpB C I g_ref01_Parse.c2 (St.mk s o) Q) g_ref01_Parse_c2_sh := Unf.of _
theorem g_ref01_Parse_c3_sh : wpB C I (g_ref01_Parse.c3F R_c2) (St.mk s o) Q =
 (demand (binV BinOp.sub (V.d (.int .i64 9223372036854775807)) (s 9)) (fun x1 =>
demand (binV BinOp.quo x1 (V.d (.int .i64 10))) (fun x2 =>
demand (binV BinOp.gtr (s 6) x2) (fun x3 =>
condK x3
 (Q .ret (St.mk (look [(2, (V.d (.int .i64 0))), (3, (V.d (.bool false)))]) (looko ([].map fun n => (n, o n)))))
 (wpB C I R_c2 (St.mk (look [(0, s 0), (4, s 4), (5, s 5), (6, s 6), (7, s 7), (9, s 9), (50, x3)]) (looko ([].map fun n => (n, o n)))) Q))))) := rfl
@[instance] theorem g_ref01_Parse_c3_u : UnfAt (wpB C I g_ref01_Parse.c3 (St.mk s o) Q) g_ref01_Parse_c3_sh := Unf.of _
theorem g_ref01_Parse_c4_sh : wpB C I (g_ref01_Parse.c4F R_c3) (St.mk s o) Q =
 (demand (binV BinOp.sub (s 8) (V.d (.int .u8 48))) (fun x1 =>
demand (convV IntKind.i64 x1) (fun x2 =>
wpB C I R_c3 (St.mk (look [(0, s 0), (4, s 4), (5, s 5), (6, s 6), (7, s 7), (9, x2)]) (looko ([].map fun n => (n, o n)))) Q))) := rfl
@[instance] theorem g_ref01_Parse_c4_u : UnfAt (wpB C I g_ref01_Parse.c4 (St.mk s o) Q) g_ref01_Parse_c4_sh := Unf.of _
theorem g_ref01_Parse_c5_sh : wpB C I (g_ref01_Parse.c5F R_o2 R_c1 R_c4) (St.mk s o) Q =
 (demand (binV BinOp.lss (s 8) (V.d (.int .u8 48))) (fun x1 =>
opsB C I R_o2 (St.mk (look [(0, s 0), (4, s 4), (5, s 5), (6, s 6), (7, s 7), (8, s 8), (39, x1)]) (looko ([].map fun n => (n, o n)))) (fun st => (seqK (fun st => wpB C I R_c1 st (seqK (fun st => wpB C I R_c4 st Q) Q)) (seqK (fun st => wpB C I R_c4 st Q) Q)) .normal (St.trim st [0, 4, 5, 6, 7, 8, 42] (some []))))) := rfl
@[instance] theorem g_ref01_Parse_c5_u : UnfAt (wpB C I g_ref01_Parse.c5 (St.mk s o) Q) g_ref01_Parse_c5_sh := Unf.of _
theorem g_ref01_Parse_c6_sh : wpB C I (g_ref01_Parse.c6F R_c5) (St.mk s o) Q =
 (demand (lenSV (s 4)) (fun x1 =>
demand (binV BinOp.sub x1 (V.d (.int .i64 3))) (fun x2 =>
demand (binV BinOp.eql (s 7) x2) (fun x3 =>
condK x3
 (demand (binV BinOp.neq (s 8) (V.d (.int .u8 46))) (fun x4 =>
condK x4
 (Q .ret (St.mk (look [(2, (V.d (.int .i64 0))), (3, (V.d (.bool false)))]) (looko ([].map fun n => (n, o n)))))
 (Q (.exit 1) (St.mk (look [(0, s 0), (4, s 4), (5, s 5), (6, s 6), (7, s 7), (36, x4)]) (looko ([].map fun n => (n, o n)))))))
 (wpB C I R_c5 (St.mk (look [(0, s 0), (4, s 4), (5, s 5), (6, s 6), (7, s 7), (8, s 8), (34, x3)]) (looko ([].map fun n => (n, o n)))) Q))))) := rfl
@[instance] theorem g_ref01_Parse_c6_u : UnfAt (wpB C I g_ref01_Parse.c6 (St.mk s o) Q) g_ref01_Parse_c6_sh := Unf.of _
theorem g_ref01_Parse_c7_sh : wpB C I (g_ref01_Parse.c7) (St.mk s o) Q =
 (demand (binV BinOp.add (s 7) (V.d (.int .i64 1))) (fun x1 =>
Q .normal (St.mk (look [(0, s 0), (4, s 4), (5, s 5), (6, s 6), (7, x1)]) (looko ([].map fun n => (n, o n)))))) := rfl
@[instance] theorem g_ref01_Parse_c7_u : UnfAt (wpB C I g_ref01_Parse.c7 (St.mk s o) Q) g_ref01_Parse_c7_sh := Unf.of _
theorem g_ref01_Parse_c8_sh : wpB C I (g_ref01_Parse.c8F R_c6 R_c7) (St.mk s o) Q =
 (demand (idxV (s 4) (s 7)) (fun x1 =>
wpB C I R_c6 (St.mk (look [(0, s 0), (4, s 4), (5, s 5), (6, s 6), (7, s 7), (8, x1)]) (looko ([].map fun n => (n, o n)))) (blockK 1 [0, 4, 5, 6, 7] (some []) (seqK (fun st => wpB C I R_c7 st Q) Q)))) := rfl
@[instance] theorem g_ref01_Parse_c8_u : UnfAt (wpB C I g_ref01_Parse.c8 (St.mk s o) Q) g_ref01_Parse_c8_sh := Unf.of _
theorem g_ref01_Parse_l0_sh (hL : R_l0 = g_ref01_Parse.l0F R_c8)
 (h : demand (lenSV (s 4)) (fun x1 =>
demand (binV BinOp.lss (s 7) x1) (fun x2 =>
condK x2
 (wpB C I R_c8 (St.mk (look [(0, s 0), (4, s 4), (5, s 5), (6, s 6), (7, s 7), (24, x2)]) (looko ([].map fun n => (n, o n)))) (seqK (fun s => wpB C I R_l0 s Q) Q))
 (Q (.exit 0) (St.mk (look [(0, s 0), (4, s 4), (5, s 5), (6, s 6), (7, s 7), (24, x2)]) (looko ([].map fun n => (n, o n)))))))) : wpB C I R_l0 (St.mk s o) Q := w_loopC hL h
theorem g_ref01_Parse_o5_sh : opsB C I (g_ref01_Parse.o5) (St.mk s o) K =
 (demand (pickV (s 62) (s 66) (V.d (.bool false))) (fun x1 =>
K (St.mk (upd (upd (upd s 67 x1) 2 (s 58)) 3 x1) o))) := rfl
@[instance] theorem g_ref01_Parse_o5_u : UnfAt (opsB C I g_ref01_Parse.o5 (St.mk s o) K) g_ref01_Parse_o5_sh := Unf.of _
theorem g_ref01_Parse_o4_sh : opsB C I (g_ref01_Parse.o4F R_o5) (St.mk s o) K =
 (guardK (s 62) true
 (callK C I (St.mk (upd (upd (upd s 62 (V.d (D.bool true))) 63 (s 6)) 62 (V.d (D.bool true))) o) (some 64) 54 [(s 6)] (fun r1 or1 =>
demand (binV BinOp.eql r1 (s 0)) (fun x2 =>
opsB C I R_o5 (St.mk (look [(58, s 58), (62, (V.d (D.bool true))), (66, x2)]) (looko ([].map fun n => (n, or1 n)))) K)))
 (opsB C I R_o5 (St.mk (look [(58, s 58), (62, (V.d (D.bool false))), (66, (V.tup []))]) (looko ([].map fun n => (n, o n)))) K)
 (opsB C I R_o5 (St.mk (look [(58, s 58), (62, (V.tup [])), (66, (V.tup []))]) (looko ([].map fun n => (n, o n)))) K)) := rfl
@[instance] theorem g_ref01_Parse_o4_u : UnfAt (opsB C I g_ref01_Parse.o4 (St.mk s o) K) g_ref01_Parse_o4_sh := Unf.of _
theorem g_ref01_Parse_c9_sh : wpB C I (g_ref01_Parse.c9) (St.mk s o) Q =
 (Q .ret (St.mk s o)) := rfl
@[instance] theorem g_ref01_Parse_c9_u : UnfAt (wpB C I g_ref01_Parse.c9 (St.mk s o) Q) g_ref01_Parse_c9_sh := Unf.of _
theorem g_ref01_Parse_c10_sh : wpB C I (g_ref01_Parse.c10F R_o4 R_c9) (St.mk s o) Q =
 (demand (lenSV (s 4)) (fun x1 =>
demand (binV BinOp.geq x1 (V.d (.int .i64 4))) (fun x2 =>
opsB C I R_o4 (St.mk (look [(0, s 0), (6, s 6), (58, s 6), (62, x2)]) (looko ([].map fun n => (n, o n)))) (fun st => (seqK (fun st => wpB C I R_c9 st Q) Q) .normal (St.trim st [2, 3] (some [])))))) := rfl
@[instance] theorem g_ref01_Parse_c10_u : UnfAt (wpB C I g_ref01_Parse.c10 (St.mk s o) Q) g_ref01_Parse_c10_sh := Unf.of _
theorem g_ref01_Parse_c11_sh : wpB C I (g_ref01_Parse.c11F R_c10) (St.mk s o) Q =
 (condK (s 5)
 (demand (unV UnOp.neg (s 6)) (fun x1 =>
wpB C I R_c10 (St.mk (look [(0, s 0), (4, s 4), (6, x1)]) (looko ([].map fun n => (n, o n)))) Q))
 (wpB C I R_c10 (St.mk (look [(0, s 0), (4, s 4), (6, s 6), (55, s 5)]) (looko ([].map fun n => (n, o n)))) Q)) := rfl
@[instance] theorem g_ref01_Parse_c11_u : UnfAt (wpB C I g_ref01_Parse.c11 (St.mk s o) Q) g_ref01_Parse_c11_sh := Unf.of _
theorem g_ref01_Parse_c12_sh : wpB C I (g_ref01_Parse.c12F R_l0 R_c11) (St.mk s o) Q =
 (wpB C I R_l0 (St.mk (look [(0, s 0), (4, s 4), (5, s 5), (6, (V.d (.int .i64 0))), (7, (V.d (.int .i64 0)))]) (looko ([].map fun n => (n, o n)))) (blockK 0 [0, 4, 5, 6] (some []) (seqK (fun st => wpB C I R_c11 st Q) Q))) := rfl
@[instance] theorem g_ref01_Parse_c12_u : UnfAt (wpB C I g_ref01_Parse.c12 (St.mk s o) Q) g_ref01_Parse_c12_sh := Unf.of _
theorem g_ref01_Parse_code_sh : wpB C I (g_ref01_Parse.codeF R_o0 R_c0 R_c12) (St.mk s o) Q =
 (demand (lenSV (s 0)) (fun x1 =>
demand (binV BinOp.gtr x1 (V.d (.int .i64 0))) (fun x2 =>
opsB C I R_o0 (St.mk (look [(0, s 0), (4, s 0), (5, (V.d (.bool false))), (14, x2)]) (looko ([].map fun n => (n, o n)))) (fun st => (seqK (fun st => wpB C I R_c0 st (seqK (fun st => wpB C I R_c12 st Q) Q)) (seqK (fun st => wpB C I R_c12 st Q) Q)) .normal (St.trim st [0, 4, 5, 18] (some [])))))) := rfl
@[instance] theorem g_ref01_Parse_code_u : UnfAt (wpB C I g_ref01_Parse.code (St.mk s o) Q) g_ref01_Parse_code_sh := Unf.of _
theorem g_ref03_Parse_o1_sh : opsB C I (g_ref03_Parse.o1) (St.mk s o) K =
 (demand (pickV (s 12) (s 16) (V.d (.bool false))) (fun x1 =>
K (St.mk (upd s 17 x1) o))) := rfl
@[instance] theorem g_ref03_Parse_o1_u : UnfAt (opsB C I g_ref03_Parse.o1 (St.mk s o) K) g_ref03_Parse_o1_sh := Unf.of _
theorem g_ref03_Parse_o0_sh : opsB C I (g_ref03_Parse.o0F R_o1) (St.mk s o) K =
 (guardK (s 12) true
 (callK C I (St.mk (upd (upd (upd s 12 (V.d (D.bool true))) 13 (s 4)) 12 (V.d (D.bool true))) o) (some 14) 94 [(s 4)] (fun r1 or1 =>
demand (binV BinOp.eql r1 (s 0)) (fun x2 =>
opsB C I R_o1 (St.mk (look [(0, s 0), (4, s 4), (12, (V.d (D.bool true))), (16, x2)]) (looko ([].map fun n => (n, or1 n)))) K)))
 (opsB C I R_o1 (St.mk (look [(0, s 0), (4, s 4), (12, (V.d (D.bool false))), (16, (V.tup []))]) (looko ([].map fun n => (n, o n)))) K)
 (opsB C I R_o1 (St.mk (look [(0, s 0), (4, s 4), (12, (V.tup [])), (16, (V.tup []))]) (looko ([].map fun n => (n, o n)))) K)) := rfl
@[instance] theorem g_ref03_Parse_o0_u : UnfAt (opsB C I g_ref03_Parse.o0 (St.mk s o) K) g_ref03_Parse_o0_sh := Unf.of _
theorem g_ref03_Parse_c0_sh : wpB C I (g_ref03_Parse.c0) (St.mk s o) Q =
 (condK (s 17)
 (Q .ret (St.mk (look [(2, s 4), (3, (V.d (.bool true)))]) (looko ([].map fun n => (n, o n)))))
 (Q .normal (St.mk s o))) := rfl
@[instance] theorem g_ref03_Parse_c0_u : UnfAt (wpB C I g_ref03_Parse.c0 (St.mk s o) Q) g_ref03_Parse_c0_sh := Unf.of _
theorem g_ref03_Parse_c1_sh : wpB C I (g_ref03_Parse.c1) (St.mk s o) Q =
 (demand (binV BinOp.add (s 4) (V.d (.int .i64 1))) (fun x1 =>
Q .normal (St.mk (look [(0, s 0), (4, x1)]) (looko ([].map fun n => (n, o n)))))) := rfl
@[instance] theorem g_ref03_Parse_c1_u : UnfAt (wpB C I g_ref03_Parse.c1 (St.mk s o) Q) g_ref03_Parse_c1_sh := Unf.of _
theorem g_ref03_Parse_l0_sh (hL : R_l0 = g_ref03_Parse.l0F R_o0 R_c0 R_c1)
 (h : demand (binV BinOp.leq (s 4) (V.d (.int .i64 10000))) (fun x1 =>
condK x1
 (demand (lenSV (s 0)) (fun x2 =>
demand (binV BinOp.lss x2 (V.d (.int .i64 9))) (fun x3 =>
opsB C I R_o0 (St.mk (look [(0, s 0), (4, s 4), (12, x3)]) (looko ([].map fun n => (n, o n)))) (fun st => (seqK (fun st => wpB C I R_c0 st (blockK 1 [0, 4] (some []) (seqK (fun st => wpB C I R_c1 st (seqK (fun s => wpB C I R_l0 s Q) Q)) (seqK (fun s => wpB C I R_l0 s Q) Q)))) (blockK 1 [0, 4] (some []) (seqK (fun st => wpB C I R_c1 st (seqK (fun s => wpB C I R_l0 s Q) Q)) (seqK (fun s => wpB C I R_l0 s Q) Q)))) .normal (St.trim st [0, 4, 17] (some []))))))
 (Q (.exit 0) (St.mk (look [(0, s 0), (4, s 4), (6, x1)]) (looko ([].map fun n => (n, o n))))))) : wpB C I R_l0 (St.mk s o) Q := w_loopC hL h
theorem g_ref03_Parse_c2_sh : wpB C I (g_ref03_Parse.c2) (St.mk s o) Q =
 (Q .ret (St.mk (look [(2, (V.d (.int .i64 0))), (3, (V.d (.bool false)))]) (looko ([].map fun n => (n, o n))))) := rfl
@[instance] theorem g_ref03_Parse_c2_u : UnfAt (wpB C I g_ref03_Parse.c2 (St.mk s o) Q) g_ref03_Parse_c2_sh := Unf.of _
theorem g_ref03_Parse_code_sh : wpB C I (g_ref03_Parse.codeF R_l0 R_c2) (St.mk s o) Q =
 (wpB C I R_l0 (St.mk (look [(0, s 0), (4, (V.d (.int .i64 0)))]) (looko ([].map fun n => (n, o n)))) (blockK 0 [] (some []) (seqK (fun st => wpB C I R_c2 st Q) Q))) := rfl
@[instance] theorem g_ref03_Parse_code_u : UnfAt (wpB C I g_ref03_Parse.code (St.mk s o) Q) g_ref03_Parse_code_sh := Unf.of _
theorem g_ref07_whole_c0_sh : wpB C I (g_ref07_whole.c0) (St.mk s o) Q =
 (demand (binV BinOp.add (s 3) (V.d (.int .i64 1))) (fun x1 =>
Q .normal (St.mk (look [(0, s 0), (3, x1)]) (looko ([].map fun n => (n, o n)))))) := rfl
@[instance] theorem g_ref07_whole_c0_u : UnfAt (wpB C I g_ref07_whole.c0 (St.mk s o) Q) g_ref07_whole_c0_sh := Unf.of _
theorem g_ref07_whole_c1_sh : wpB C I (g_ref07_whole.c1F R_c0) (St.mk s o) Q =
 (demand (idxV (s 0) (s 3)) (fun x1 =>
callK C I (St.mk (upd (upd (upd s 10 (s 0)) 11 (s 3)) 12 x1) o) (some 13) 96 [x1, (V.d (.str [48, 49, 50, 51, 52, 53, 54, 55, 56, 57]))] (fun r2 or2 =>
demand (unV UnOp.not r2) (fun x3 =>
condK x3
 (Q .ret (St.mk (look [(2, (V.d (.bool false)))]) (looko ([].map fun n => (n, or2 n)))))
 (wpB C I R_c0 (St.mk (look [(0, s 0), (3, s 3)]) (looko ([].map fun n => (n, or2 n)))) Q))))) := rfl
@[instance] theorem g_ref07_whole_c1_u : UnfAt (wpB C I g_ref07_whole.c1 (St.mk s o) Q) g_ref07_whole_c1_sh := Unf.of _
theorem g_ref07_whole_l0_sh (hL : R_l0 = g_ref07_whole.l0F R_c1)
 (h : demand (lenSV (s 0)) (fun x1 =>
demand (binV BinOp.lss (s 3) x1) (fun x2 =>
condK x2
 (wpB C I R_c1 (St.mk (look [(0, s 0), (3, s 3), (7, x2)]) (looko ([].map fun n => (n, o n)))) (seqK (fun s => wpB C I R_l0 s Q) Q))
 (Q (.exit 0) (St.mk (look [(0, s 0), (3, s 3), (7, x2)]) (looko ([].map fun n => (n, o n)))))))) : wpB C I R_l0 (St.mk s o) Q := w_loopC hL h
theorem g_ref07_whole_o5_sh : opsB C I (g_ref07_whole.o5) (St.mk s o) K =
 (demand (pickV (s 23) (s 31) (V.d (.bool false))) (fun x1 =>
K (St.mk (upd (upd s 32 x1) 2 x1) o))) := rfl
@[instance] theorem g_ref07_whole_o5_u : UnfAt (opsB C I g_ref07_whole.o5 (St.mk s o) K) g_ref07_whole_o5_sh := Unf.of _
theorem g_ref07_whole_o4_sh : opsB C I (g_ref07_whole.o4F R_o5) (St.mk s o) K =
 (guardK (s 23) true
 (demand (pickV (s 27) (V.d (.bool true)) (s 30)) (fun x1 =>
opsB C I R_o5 (St.mk (look [(23, (V.d (D.bool true))), (31, x1)]) (looko ([].map fun n => (n, o n)))) K))
 (opsB C I R_o5 (St.mk (look [(23, (V.d (D.bool false))), (31, (V.tup []))]) (looko ([].map fun n => (n, o n)))) K)
 (opsB C I R_o5 (St.mk (look [(23, (V.tup [])), (31, (V.tup []))]) (looko ([].map fun n => (n, o n)))) K)) := rfl
@[instance] theorem g_ref07_whole_o4_u : UnfAt (opsB C I g_ref07_whole.o4 (St.mk s o) K) g_ref07_whole_o4_sh := Unf.of _
theorem g_ref07_whole_o3_sh : opsB C I (g_ref07_whole.o3F R_o4) (St.mk s o) K =
 (guardK (s 27) false
 (demand (idxV (s 0) (V.d (.int .i64 0))) (fun x1 =>
demand (binV BinOp.neq x1 (V.d (.int .u8 48))) (fun x2 =>
opsB C I R_o4 (St.mk (look [(23, s 23), (27, (V.d (D.bool false))), (30, x2)]) (looko ([].map fun n => (n, o n)))) K)))
 (opsB C I R_o4 (St.mk (look [(23, s 23), (27, (V.d (D.bool true))), (30, (V.tup []))]) (looko ([].map fun n => (n, o n)))) K)
 (opsB C I R_o4 (St.mk (look [(23, s 23), (27, (V.tup [])), (30, (V.tup []))]) (looko ([].map fun n => (n, o n)))) K)) := rfl
@[instance] theorem g_ref07_whole_o3_u : UnfAt (opsB C I g_ref07_whole.o3 (St.mk s o) K) g_ref07_whole_o3_sh := Unf.of _
theorem g_ref07_whole_o2_sh : opsB C I (g_ref07_whole.o2F R_o3) (St.mk s o) K =
 (guardK (s 23) true
 (demand (lenSV (s 0)) (fun x1 =>
demand (binV BinOp.eql x1 (V.d (.int .i64 1))) (fun x2 =>
opsB C I R_o3 (St.mk (look [(0, s 0), (23, (V.d (D.bool true))), (27, x2)]) (looko ([].map fun n => (n, o n)))) K)))
 (opsB C I R_o3 (St.mk (look [(0, s 0), (23, (V.d (D.bool false))), (27, (V.tup []))]) (looko ([].map fun n => (n, o n)))) K)
 (opsB C I R_o3 (St.mk (look [(0, s 0), (23, (V.tup [])), (27, (V.tup []))]) (looko ([].map fun n => (n, o n)))) K)) := rfl
@[instance] theorem g_ref07_whole_o2_u : UnfAt (opsB C I g_ref07_whole.o2 (St.mk s o) K) g_ref07_whole_o2_sh := Unf.of _
theorem g_ref07_whole_o1_sh : opsB C I (g_ref07_whole.o1F R_o2) (St.mk s o) K =
 (demand (pickV (s 18) (s 21) (V.d (.bool false))) (fun x1 =>
opsB C I R_o2 (St.mk (look [(0, s 0), (23, x1)]) (looko ([].map fun n => (n, o n)))) K)) := rfl
@[instance] theorem g_ref07_whole_o1_u : UnfAt (opsB C I g_ref07_whole.o1 (St.mk s o) K) g_ref07_whole_o1_sh := Unf.of _
theorem g_ref07_whole_o0_sh : opsB C I (g_ref07_whole.o0F R_o1) (St.mk s o) K =
 (guardK (s 18) true
 (demand (lenSV (s 0)) (fun x1 =>
demand (binV BinOp.lss x1 (V.d (.int .i64 10))) (fun x2 =>
opsB C I R_o1 (St.mk (look [(0, s 0), (18, (V.d (D.bool true))), (21, x2)]) (looko ([].map fun n => (n, o n)))) K)))
 (opsB C I R_o1 (St.mk (look [(0, s 0), (18, (V.d (D.bool false))), (21, (V.tup []))]) (looko ([].map fun n => (n, o n)))) K)
 (opsB C I R_o1 (St.mk (look [(0, s 0), (18, (V.tup [])), (21, (V.tup []))]) (looko ([].map fun n => (n, o n)))) K)) := rfl
@[instance] theorem g_ref07_whole_o0_u : UnfAt (opsB C I g_ref07_whole.o0 (St.mk s o) K) g_ref07_whole_o0_sh := Unf.of _
theorem g_ref07_whole_c2_sh : wpB C I (g_ref07_whole.c2) (St.mk s o) Q =
 (Q .ret (St.mk s o)) := rfl
@[instance] theorem g_ref07_whole_c2_u : UnfAt (wpB C I g_ref07_whole.c2 (St.mk s o) Q) g_ref07_whole_c2_sh := Unf.of _
theorem g_ref07_whole_c3_sh : wpB C I (g_ref07_whole.c3F R_o0 R_c2) (St.mk s o) Q =
 (demand (lenSV (s 0)) (fun x1 =>
demand (binV BinOp.gtr x1 (V.d (.int .i64 0))) (fun x2 =>
opsB C I R_o0 (St.mk (look [(0, s 0), (18, x2)]) (looko ([].map fun n => (n, o n)))) (fun st => (seqK (fun st => wpB C I R_c2 st Q) Q) .normal (St.trim st [2] (some [])))))) := rfl
@[instance] theorem g_ref07_whole_c3_u : UnfAt (wpB C I g_ref07_whole.c3 (St.mk s o) Q) g_ref07_whole_c3_sh := Unf.of _
theorem g_ref07_whole_code_sh : wpB C I (g_ref07_whole.codeF R_l0 R_c3) (St.mk s o) Q =
 (wpB C I R_l0 (St.mk (look [(0, s 0), (3, (V.d (.int .i64 0)))]) (looko ([].map fun n => (n, o n)))) (blockK 0 [0] (some []) (seqK (fun st => wpB C I R_c3 st Q) Q))) := rfl
@[instance] theorem g_ref07_whole_code_u : UnfAt (wpB C I g_ref07_whole.code (St.mk s o) Q) g_ref07_whole_code_sh := Unf.of _
theorem g_ref08_factor_c0_sh : wpB C I (g_ref08_factor.c0) (St.mk s o) Q =
 (demand (loadV o (some 7) (s 7)) (fun x1 =>
demand ((buildN [V.d (.str []), V.d (.str []), V.d (.int .i64 0), V.d (.int .i64 0), V.d (.int .i64 0), V.d (.int .i64 0)] [(0, 1, (V.d (.str [110, 101, 103]))), (3, 1, (s 8))]).map V.agg) (fun x2 =>
callK C I (St.mk (upd (upd (upd s 46 x1) 47 (s 8)) 48 x2) o) (some 49) 209 [x1, x2] (fun r3 or3 =>
demand (extV r3 0) (fun x4 =>
demand (extV r3 1) (fun x5 =>
storeK (s 4) (cellsV x4) 7 or3 (fun m6 ob7 =>
Q .ret (St.mk (look [(4, s 4), (5, x5)]) (looko ([4, 108].map fun n => (n, (upd or3 m6 (some ob7)) n))))))))))) := rfl
@[instance] theorem g_ref08_factor_c0_u : UnfAt (wpB C I g_ref08_factor.c0 (St.mk s o) Q) g_ref08_factor_c0_sh := Unf.of _
theorem g_ref08_factor_c1_sh : wpB C I (g_ref08_factor.c1F R_c0) (St.mk s o) Q =
 (demand (loadV o (some 7) (s 2)) (fun x1 =>
demand (binV BinOp.add (s 1) (V.d (.int .i64 1))) (fun x2 =>
callK C I (St.mk (upd (upd (upd s 40 x1) 41 (s 1)) 42 x2) o) (some 43) 214 [x1, x2] (fun r3 or3 =>
demand (extV r3 0) (fun x4 =>
demand (extV r3 1) (fun x5 =>
(¬ I 7 ∧ Fresh (St.mk (upd (upd (upd (upd (upd (upd (upd s 40 x1) 41 (s 1)) 42 x2) 43 r3) 39 r3) 44 x4) 45 x5) or3) 7 (some 7) ∧ V.refsL 7 [V.cap0, V.d (.int .i64 0), V.d (.int .i64 0), V.cap0, V.cap0, V.d (.int .i64 0), V.d (.int .i64 0)] = false ∧
storeK (V.ptr 7 0) (cellsV x4) 7 (upd or3 7 (some (Ob.box [V.cap0, V.d (.int .i64 0), V.d (.int .i64 0), V.cap0, V.cap0, V.d (.int .i64 0), V.d (.int .i64 0)]))) (fun m6 ob7 =>
wpB C I R_c0 (St.mk (look [(4, s 4), (7, (V.ptr 7 0)), (8, x5)]) (looko ([4, 7, 108].map fun n => (n, (upd (upd or3 7 (some (Ob.box [V.cap0, V.d (.int .i64 0), V.d (.int .i64 0), V.cap0, V.cap0, V.d (.int .i64 0), V.d (.int .i64 0)]))) m6 (some ob7)) n)))) Q)))))))) := rfl
@[instance] theorem g_ref08_factor_c1_u : UnfAt (wpB C I g_ref08_factor.c1 (St.mk s o) Q) g_ref08_factor_c1_sh := Unf.of _
theorem g_ref08_factor_c2_sh : wpB C I (g_ref08_factor.c2) (St.mk s o) Q =
 (demand (loadV o (some 7) (s 9)) (fun x1 =>
callK C I (St.mk (upd s 65 x1) o) (some 66) 195 [x1, (V.d (.str [41]))] (fun r2 or2 =>
storeK (s 4) (cellsV r2) 7 or2 (fun m3 ob4 =>
Q .ret (St.mk (look [(4, s 4), (5, s 10)]) (looko ([4, 108].map fun n => (n, (upd or2 m3 (some ob4)) n)))))))) := rfl
@[instance] theorem g_ref08_factor_c2_u : UnfAt (wpB C I g_ref08_factor.c2 (St.mk s o) Q) g_ref08_factor_c2_sh := Unf.of _
theorem g_ref08_factor_c3_sh : wpB C I (g_ref08_factor.c3F R_c2) (St.mk s o) Q =
 (demand (loadV o (some 7) (s 2)) (fun x1 =>
demand (binV BinOp.add (s 1) (V.d (.int .i64 1))) (fun x2 =>
callK C I (St.mk (upd (upd (upd s 59 x1) 60 (s 1)) 61 x2) o) (some 62) 196 [x1, x2] (fun r3 or3 =>
demand (extV r3 0) (fun x4 =>
demand (extV r3 1) (fun x5 =>
(¬ I 9 ∧ Fresh (St.mk (upd (upd (upd (upd (upd (upd (upd s 59 x1) 60 (s 1)) 61 x2) 62 r3) 58 r3) 63 x4) 64 x5) or3) 9 (some 9) ∧ V.refsL 9 [V.cap0, V.d (.int .i64 0), V.d (.int .i64 0), V.cap0, V.cap0, V.d (.int .i64 0), V.d (.int .i64 0)] = false ∧
storeK (V.ptr 9 0) (cellsV x4) 7 (upd or3 9 (some (Ob.box [V.cap0, V.d (.int .i64 0), V.d (.int .i64 0), V.cap0, V.cap0, V.d (.int .i64 0), V.d (.int .i64 0)]))) (fun m6 ob7 =>
wpB C I R_c2 (St.mk (look [(4, s 4), (9, (V.ptr 9 0)), (10, x5)]) (looko ([4, 9, 108].map fun n => (n, (upd (upd or3 9 (some (Ob.box [V.cap0, V.d (.int .i64 0), V.d (.int .i64 0), V.cap0, V.cap0, V.d (.int .i64 0), V.d (.int .i64 0)]))) m6 (some ob7)) n)))) Q)))))))) := rfl
@[instance] theorem g_ref08_factor_c3_u : UnfAt (wpB C I g_ref08_factor.c3 (St.mk s o) Q) g_ref08_factor_c3_sh := Unf.of _
theorem g_ref08_factor_o1_sh : opsB C I (g_ref08_factor.o1) (St.mk s o) K =
 (demand (pickV (s 70) (V.d (.bool true)) (s 72)) (fun x1 =>
K (St.mk (upd s 73 x1) o))) := rfl
@[instance] theorem g_ref08_factor_o1_u : UnfAt (opsB C I g_ref08_factor.o1 (St.mk s o) K) g_ref08_factor_o1_sh := Unf.of _
theorem g_ref08_factor_o0_sh : opsB C I (g_ref08_factor.o0F R_o1) (St.mk s o) K =
 (guardK (s 70) false
 (demand (binV BinOp.eql (s 6) (V.d (.str [109, 97, 120]))) (fun x1 =>
opsB C I R_o1 (St.mk (look [(1, s 1), (2, s 2), (4, s 4), (6, s 6), (70, (V.d (D.bool false))), (72, x1)]) (looko ([2, 4, 108].map fun n => (n, o n)))) K))
 (opsB C I R_o1 (St.mk (look [(1, s 1), (2, s 2), (4, s 4), (6, s 6), (70, (V.d (D.bool true))), (72, (V.tup []))]) (looko ([2, 4, 108].map fun n => (n, o n)))) K)
 (opsB C I R_o1 (St.mk (look [(1, s 1), (2, s 2), (4, s 4), (6, s 6), (70, (V.tup [])), (72, (V.tup []))]) (looko ([2, 4, 108].map fun n => (n, o n)))) K)) := rfl
@[instance] theorem g_ref08_factor_o0_u : UnfAt (opsB C I g_ref08_factor.o0 (St.mk s o) K) g_ref08_factor_o0_sh := Unf.of _
theorem g_ref08_factor_c4_sh : wpB C I (g_ref08_factor.c4) (St.mk s o) Q =
 (demand (loadV o (some 7) (s 13)) (fun x1 =>
callK C I (St.mk (upd s 94 x1) o) (some 95) 195 [x1, (V.d (.str [41]))] (fun r2 or2 =>
demand ((buildN [V.d (.str []), V.d (.str []), V.d (.int .i64 0), V.d (.int .i64 0), V.d (.int .i64 0), V.d (.int .i64 0)] [(0, 1, (s 6)), (3, 1, (s 12)), (4, 1, (s 14))]).map V.agg) (fun x3 =>
callK C I (St.mk (upd (upd (upd (upd (upd (upd s 94 x1) 95 r2) 96 (s 6)) 97 (s 12)) 98 (s 14)) 99 x3) or2) (some 100) 209 [r2, x3] (fun r4 or4 =>
demand (extV r4 0) (fun x5 =>
demand (extV r4 1) (fun x6 =>
storeK (s 4) (cellsV x5) 7 or4 (fun m7 ob8 =>
Q .ret (St.mk (look [(4, s 4), (5, x6)]) (looko ([4, 108].map fun n => (n, (upd or4 m7 (some ob8)) n)))))))))))) := rfl
@[instance] theorem g_ref08_factor_c4_u : UnfAt (wpB C I g_ref08_factor.c4 (St.mk s o) Q) g_ref08_factor_c4_sh := Unf.of _
theorem g_ref08_factor_c5_sh : wpB C I (g_ref08_factor.c5F R_c4) (St.mk s o) Q =
 (demand (loadV o (some 7) (s 11)) (fun x1 =>
callK C I (St.mk (upd s 87 x1) o) (some 88) 195 [x1, (V.d (.str [44]))] (fun r2 or2 =>
demand (binV BinOp.add (s 1) (V.d (.int .i64 1))) (fun x3 =>
callK C I (St.mk (upd (upd (upd (upd s 87 x1) 88 r2) 89 (s 1)) 90 x3) or2) (some 91) 196 [r2, x3] (fun r4 or4 =>
demand (extV r4 0) (fun x5 =>
demand (extV r4 1) (fun x6 =>
(¬ I 13 ∧ Fresh (St.mk (upd (upd (upd (upd (upd (upd (upd (upd s 87 x1) 88 r2) 89 (s 1)) 90 x3) 91 r4) 86 r4) 92 x5) 93 x6) or4) 13 (some 13) ∧ V.refsL 13 [V.cap0, V.d (.int .i64 0), V.d (.int .i64 0), V.cap0, V.cap0, V.d (.int .i64 0), V.d (.int .i64 0)] = false ∧
storeK (V.ptr 13 0) (cellsV x5) 7 (upd or4 13 (some (Ob.box [V.cap0, V.d (.int .i64 0), V.d (.int .i64 0), V.cap0, V.cap0, V.d (.int .i64 0), V.d (.int .i64 0)]))) (fun m7 ob8 =>
wpB C I R_c4 (St.mk (look [(4, s 4), (6, s 6), (12, s 12), (13, (V.ptr 13 0)), (14, x6)]) (looko ([4, 13, 108].map fun n => (n, (upd (upd or4 13 (some (Ob.box [V.cap0, V.d (.int .i64 0), V.d (.int .i64 0), V.cap0, V.cap0, V.d (.int .i64 0), V.d (.int .i64 0)]))) m7 (some ob8)) n)))) Q))))))))) := rfl
@[instance] theorem g_ref08_factor_c5_u : UnfAt (wpB C I g_ref08_factor.c5 (St.mk s o) Q) g_ref08_factor_c5_sh := Unf.of _
theorem g_ref08_factor_c6_sh : wpB C I (g_ref08_factor.c6F R_c5) (St.mk s o) Q =
 (demand (loadV o (some 7) (s 2)) (fun x1 =>
callK C I (St.mk (upd s 79 x1) o) (some 80) 195 [x1, (V.d (.str [40]))] (fun r2 or2 =>
demand (binV BinOp.add (s 1) (V.d (.int .i64 1))) (fun x3 =>
callK C I (St.mk (upd (upd (upd (upd s 79 x1) 80 r2) 81 (s 1)) 82 x3) or2) (some 83) 196 [r2, x3] (fun r4 or4 =>
demand (extV r4 0) (fun x5 =>
demand (extV r4 1) (fun x6 =>
(¬ I 11 ∧ Fresh (St.mk (upd (upd (upd (upd (upd (upd (upd (upd s 79 x1) 80 r2) 81 (s 1)) 82 x3) 83 r4) 78 r4) 84 x5) 85 x6) or4) 11 (some 11) ∧ V.refsL 11 [V.cap0, V.d (.int .i64 0), V.d (.int .i64 0), V.cap0, V.cap0, V.d (.int .i64 0), V.d (.int .i64 0)] = false ∧
storeK (V.ptr 11 0) (cellsV x5) 7 (upd or4 11 (some (Ob.box [V.cap0, V.d (.int .i64 0), V.d (.int .i64 0), V.cap0, V.cap0, V.d (.int .i64 0), V.d (.int .i64 0)]))) (fun m7 ob8 =>
wpB C I R_c5 (St.mk (look [(1, s 1), (4, s 4), (6, s 6), (11, (V.ptr 11 0)), (12, x6)]) (looko ([4, 11, 108].map fun n => (n, (upd (upd or4 11 (some (Ob.box [V.cap0, V.d (.int .i64 0), V.d (.int .i64 0), V.cap0, V.cap0, V.d (.int .i64 0), V.d (.int .i64 0)]))) m7 (some ob8)) n)))) Q))))))))) := rfl
@[instance] theorem g_ref08_factor_c6_u : UnfAt (wpB C I g_ref08_factor.c6 (St.mk s o) Q) g_ref08_factor_c6_sh := Unf.of _
theorem g_ref08_factor_c7_sh : wpB C I (g_ref08_factor.c7F R_c6) (St.mk s o) Q =
 (condK (s 73)
 (demand (faddrV 2 (s 2)) (fun x1 =>
demand (loadV o none x1) (fun x2 =>
demand (binV BinOp.add x2 (V.d (.int .i64 1))) (fun x3 =>
demand (faddrV 2 (s 2)) (fun x4 =>
storeK x4 (cellsV x3) 1 o (fun m5 ob6 =>
wpB C I R_c6 (St.mk (look [(1, s 1), (2, s 2), (4, s 4), (6, s 6)]) (looko ([2, 4, 108].map fun n => (n, (upd o m5 (some ob6)) n)))) Q))))))
 (Q .normal (St.mk s o))) := rfl
@[instance] theorem g_ref08_factor_c7_u : UnfAt (wpB C I g_ref08_factor.c7 (St.mk s o) Q) g_ref08_factor_c7_sh := Unf.of _
theorem g_ref08_factor_c8_sh : wpB C I (g_ref08_factor.c8) (St.mk s o) Q =
 (demand (binV BinOp.add (s 18) (V.d (.int .i64 1))) (fun x1 =>
Q .normal (St.mk (look [(2, s 2), (4, s 4), (15, s 15), (16, s 16), (17, s 17), (18, x1)]) (looko ([2, 4, 15, 16, 108].map fun n => (n, o n)))))) := rfl
@[instance] theorem g_ref08_factor_c8_u : UnfAt (wpB C I g_ref08_factor.c8 (St.mk s o) Q) g_ref08_factor_c8_sh := Unf.of _
theorem g_ref08_factor_c9_sh : wpB C I (g_ref08_factor.c9F R_c8) (St.mk s o) Q =
 (demand (binV BinOp.mul (V.d (.int .i64 10)) (s 17)) (fun x1 =>
demand (faddrV 1 (s 15)) (fun x2 =>
demand (loadV o none x2) (fun x3 =>
demand (idxV x3 (s 18)) (fun x4 =>
demand (binV BinOp.sub x4 (V.d (.int .u8 48))) (fun x5 =>
demand (convV IntKind.i64 x5) (fun x6 =>
demand (binV BinOp.add x1 x6) (fun x7 =>
wpB C I R_c8 (St.mk (look [(2, s 2), (4, s 4), (15, s 15), (16, s 16), (17, x7), (18, s 18)]) (looko ([2, 4, 15, 16, 108].map fun n => (n, o n)))) Q)))))))) := rfl
@[instance] theorem g_ref08_factor_c9_u : UnfAt (wpB C I g_ref08_factor.c9 (St.mk s o) Q) g_ref08_factor_c9_sh := Unf.of _
theorem g_ref08_factor_l0_sh (hL : R_l0 = g_ref08_factor.l0F R_c9)
 (h : demand (faddrV 1 (s 15)) (fun x1 =>
demand (loadV (looko ([2, 4, 15, 16, 108].map fun n => (n, o n))) none x1) (fun x2 =>
demand (lenSV x2) (fun x3 =>
demand (binV BinOp.lss (s 18) x3) (fun x4 =>
condK x4
 (wpB C I R_c9 (St.mk (look [(2, s 2), (4, s 4), (15, s 15), (16, s 16), (17, s 17), (18, s 18), (137, x4)]) (looko ([2, 4, 15, 16, 108].map fun n => (n, o n)))) (seqK (fun s => wpB C I R_l0 s Q) Q))
 (Q (.exit 1) (St.mk (look [(2, s 2), (4, s 4), (15, s 15), (16, s 16), (17, s 17), (18, s 18), (137, x4)]) (looko ([2, 4, 15, 16, 108].map fun n => (n, o n)))))))))) : wpB C I R_l0 (St.mk s o) Q := w_loopC hL h
theorem g_ref08_factor_c10_sh : wpB C I (g_ref08_factor.c10) (St.mk s o) Q =
 (demand ((buildN [V.d (.str []), V.d (.str []), V.d (.int .i64 0), V.d (.int .i64 0), V.d (.int .i64 0), V.d (.int .i64 0)] [(0, 1, (V.d (.str [119, 104, 111, 108, 101]))), (2, 1, (s 17))]).map V.agg) (fun x1 =>
storeK (s 16) (cellsV x1) 6 o (fun m2 ob3 =>
Q .normal (St.mk (look [(2, s 2), (4, s 4), (16, s 16)]) (looko ([2, 4, 16, 108].map fun n => (n, (upd o m2 (some ob3)) n))))))) := rfl
@[instance] theorem g_ref08_factor_c10_u : UnfAt (wpB C I g_ref08_factor.c10 (St.mk s o) Q) g_ref08_factor_c10_sh := Unf.of _
theorem g_ref08_factor_c11_sh : wpB C I (g_ref08_factor.c11) (St.mk s o) Q =
 (demand ((buildN [V.d (.str []), V.d (.str []), V.d (.int .i64 0), V.d (.int .i64 0), V.d (.int .i64 0), V.d (.int .i64 0)] [(0, 1, (V.d (.str [97, 109, 111, 117, 110, 116]))), (2, 1, (s 19))]).map V.agg) (fun x1 =>
storeK (s 16) (cellsV x1) 6 o (fun m2 ob3 =>
Q .normal (St.mk (look [(2, s 2), (4, s 4), (16, s 16)]) (looko ([2, 4, 16, 108].map fun n => (n, (upd o m2 (some ob3)) n))))))) := rfl
@[instance] theorem g_ref08_factor_c11_u : UnfAt (wpB C I g_ref08_factor.c11 (St.mk s o) Q) g_ref08_factor_c11_sh := Unf.of _
theorem g_ref08_factor_c12_sh : wpB C I (g_ref08_factor.c12) (St.mk s o) Q =
 (demand ((buildN [V.d (.str []), V.d (.str []), V.d (.int .i64 0), V.d (.int .i64 0), V.d (.int .i64 0), V.d (.int .i64 0)] [(0, 1, (V.d (.str [114, 97, 116, 101]))), (2, 1, (s 21))]).map V.agg) (fun x1 =>
storeK (s 16) (cellsV x1) 6 o (fun m2 ob3 =>
Q .normal (St.mk (look [(2, s 2), (4, s 4), (16, s 16)]) (looko ([2, 4, 16, 108].map fun n => (n, (upd o m2 (some ob3)) n))))))) := rfl
@[instance] theorem g_ref08_factor_c12_u : UnfAt (wpB C I g_ref08_factor.c12 (St.mk s o) Q) g_ref08_factor_c12_sh := Unf.of _
theorem g_ref08_factor_c13_sh : wpB C I (g_ref08_factor.c13) (St.mk s o) Q =
 (demand (loadV o (some 7) (s 2)) (fun x1 =>
demand (loadV o (some 6) (s 16)) (fun x2 =>
callK C I (St.mk (upd (upd s 175 x1) 176 x2) o) (some 177) 209 [x1, x2] (fun r3 or3 =>
demand (extV r3 0) (fun x4 =>
demand (extV r3 1) (fun x5 =>
storeK (s 4) (cellsV x4) 7 or3 (fun m6 ob7 =>
Q .ret (St.mk (look [(4, s 4), (5, x5)]) (looko ([4, 108].map fun n => (n, (upd or3 m6 (some ob7)) n))))))))))) := rfl
@[instance] theorem g_ref08_factor_c13_u : UnfAt (wpB C I g_ref08_factor.c13 (St.mk s o) Q) g_ref08_factor_c13_sh := Unf.of _
theorem g_ref08_factor_c14_sh : wpB C I (g_ref08_factor.c14F R_c13) (St.mk s o) Q =
 (demand (faddrV 2 (s 2)) (fun x1 =>
demand (loadV o none x1) (fun x2 =>
demand (binV BinOp.add x2 (V.d (.int .i64 1))) (fun x3 =>
demand (faddrV 2 (s 2)) (fun x4 =>
storeK x4 (cellsV x3) 1 o (fun m5 ob6 =>
wpB C I R_c13 (St.mk (look [(2, s 2), (4, s 4), (16, s 16)]) (looko ([2, 4, 16, 108].map fun n => (n, (upd o m5 (some ob6)) n)))) Q)))))) := rfl
@[instance] theorem g_ref08_factor_c14_u : UnfAt (wpB C I g_ref08_factor.c14 (St.mk s o) Q) g_ref08_factor_c14_sh := Unf.of _
theorem g_ref08_factor_c15_sh : wpB C I (g_ref08_factor.c15F R_l0 R_c10 R_c11 R_c12 R_c14) (St.mk s o) Q =
 (demand (faddrV 0 (s 15)) (fun x1 =>
demand (loadV o none x1) (fun x2 =>
demand (binV BinOp.eql x2 (V.d (.int .i64 1))) (fun x3 =>
condK x3
 (demand (faddrV 1 (s 15)) (fun x4 =>
demand (loadV (looko ([2, 4, 15, 16, 108].map fun n => (n, o n))) none x4) (fun x5 =>
callK C I (St.mk (upd (upd (look [(2, s 2), (4, s 4), (15, s 15), (16, s 16), (121, x2), (124, x3)]) 126 x4) 127 x5) (looko ([2, 4, 15, 16, 108].map fun n => (n, o n)))) (some 128) 152 [x5] (fun r6 or6 =>
condK r6
 (demand (loadV (looko ([2, 4, 16, 108].map fun n => (n, or6 n))) (some 7) (s 2)) (fun x7 =>
callK C I (St.mk (upd (look [(2, s 2), (4, s 4), (16, s 16), (128, r6)]) 129 x7) (looko ([2, 4, 16, 108].map fun n => (n, or6 n)))) (some 130) 194 [x7, (V.d (.int .i64 2))] (fun r8 or8 =>
storeK (s 4) (cellsV r8) 7 or8 (fun m9 ob10 =>
Q .ret (St.mk (look [(4, s 4), (5, (V.d (.int .i64 0)))]) (looko ([4, 108].map fun n => (n, (upd or8 m9 (some ob10)) n))))))))
 (wpB C I R_c14 (St.mk (look [(2, s 2), (4, s 4), (16, s 16)]) (looko ([2, 4, 16, 108].map fun n => (n, or6 n)))) Q)))))
 (demand (binV BinOp.eql x2 (V.d (.int .i64 2))) (fun x11 =>
condK x11
 (wpB C I R_l0 (St.mk (look [(2, s 2), (4, s 4), (15, s 15), (16, s 16), (17, (V.d (.int .i64 0))), (18, (V.d (.int .i64 0)))]) (looko ([2, 4, 15, 16, 108].map fun n => (n, o n)))) (blockK 1 [2, 4, 16, 17] (some [2, 4, 16, 108]) (seqK (fun st => wpB C I R_c10 st (blockK 0 [2, 4, 16] (some [2, 4, 16, 108]) (seqK (fun st => wpB C I R_c14 st Q) Q))) (blockK 0 [2, 4, 16] (some [2, 4, 16, 108]) (seqK (fun st => wpB C I R_c14 st Q) Q)))))
 (demand (binV BinOp.eql x2 (V.d (.int .i64 3))) (fun x12 =>
condK x12
 (demand (faddrV 1 (s 15)) (fun x13 =>
demand (loadV (looko ([2, 4, 15, 16, 108].map fun n => (n, o n))) none x13) (fun x14 =>
callK C I (St.mk (upd (upd (look [(2, s 2), (4, s 4), (15, s 15), (16, s 16), (121, x2), (151, x12)]) 154 x13) 155 x14) (looko ([2, 4, 15, 16, 108].map fun n => (n, o n)))) (some 156) 52 [x14] (fun r15 or15 =>
demand (extV r15 0) (fun x16 =>
demand (extV r15 1) (fun x17 =>
wpB C I R_c11 (St.mk (look [(2, s 2), (4, s 4), (16, s 16), (19, x16)]) (looko ([2, 4, 16, 108].map fun n => (n, or15 n)))) (blockK 0 [2, 4, 16] (some [2, 4, 16, 108]) (seqK (fun st => wpB C I R_c14 st Q) Q))))))))
 (demand (binV BinOp.eql x2 (V.d (.int .i64 4))) (fun x18 =>
condK x18
 (demand (faddrV 1 (s 15)) (fun x19 =>
demand (loadV (looko ([2, 4, 15, 16, 108].map fun n => (n, o n))) none x19) (fun x20 =>
callK C I (St.mk (upd (upd (look [(2, s 2), (4, s 4), (15, s 15), (16, s 16), (161, x18)]) 164 x19) 165 x20) (looko ([2, 4, 15, 16, 108].map fun n => (n, o n)))) (some 166) 93 [x20] (fun r21 or21 =>
demand (extV r21 0) (fun x22 =>
demand (extV r21 1) (fun x23 =>
wpB C I R_c12 (St.mk (look [(2, s 2), (4, s 4), (16, s 16), (21, x22)]) (looko ([2, 4, 16, 108].map fun n => (n, or21 n)))) (blockK 0 [2, 4, 16] (some [2, 4, 16, 108]) (seqK (fun st => wpB C I R_c14 st Q) Q))))))))
 (demand (loadV (looko ([2, 4, 15, 16, 108].map fun n => (n, o n))) (some 7) (s 2)) (fun x24 =>
callK C I (St.mk (upd (look [(2, s 2), (4, s 4), (15, s 15), (16, s 16), (161, x18)]) 122 x24) (looko ([2, 4, 15, 16, 108].map fun n => (n, o n)))) (some 123) 194 [x24, (V.d (.int .i64 2))] (fun r25 or25 =>
storeK (s 4) (cellsV r25) 7 or25 (fun m26 ob27 =>
Q .ret (St.mk (look [(4, s 4), (5, (V.d (.int .i64 0)))]) (looko ([4, 108].map fun n => (n, (upd or25 m26 (some ob27)) n)))))))))))))))))) := rfl
@[instance] theorem g_ref08_factor_c15_u : UnfAt (wpB C I g_ref08_factor.c15 (St.mk s o) Q) g_ref08_factor_c15_sh := Unf.of _
end Pay
