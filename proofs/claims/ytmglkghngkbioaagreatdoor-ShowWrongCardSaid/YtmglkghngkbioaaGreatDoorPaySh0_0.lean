/- What the code of the functions comes to, without slots: an equation for each part; no condition. -/
import Derived.Test.YtmglkghngkbioaaGreatDoorPayBb0
import Derived.Test.YtmglkghngkbioaaGreatDoorPayCode0_0
set_option maxRecDepth 20000
set_option maxHeartbeats 400000
set_option linter.unusedVariables false
namespace Pay
open Go
variable {R_c0 R_c1 R_c2 R_c3 R_c4 R_c5 R_c6 R_c7 R_c8 R_c9 R_c10 R_c11 R_c12 R_c13 R_c14 R_l0 R_l1 R_l2 : ACode} {R_i1 R_i2 R_i3 R_i4 R_i5 R_i6 R_i7 R_i11 R_i12 R_i13 R_i14 R_i15 R_i16 R_i17 R_i18 R_i19 R_i20 R_i21 R_i22 R_i25 R_i26 R_i27 R_i28 R_i29 R_i30 R_i31 : List Nat} {R_o0 R_o1 R_o2 R_o3 R_o4 R_o5 R_o6 R_o7 R_o8 R_o9 R_o22 R_o23 : List AOper} {R_t4 R_t5 R_t6 R_t7 R_t8 R_t9 R_t10 R_t11 R_t12 R_t13 R_t14 R_t15 R_t16 R_t17 R_t18 R_t19 R_t20 R_t21 R_t22 R_t23 R_t32 R_t33 R_t34 R_t35 R_t36 R_t37 R_t38 R_t39 R_t40 R_t41 R_t42 R_t43 R_t44 R_t45 R_t46 : Tr} {C : Ctx} {I : Nat → Prop} {s : Nat → V} {o : Nat → Option Ob} {K : St → Prop} {Q : Ex → St → Prop}
theorem g_law09_ShowWrong_o1_sh : opsB C I (g_law09_ShowWrong.o1) (St.mk s o) K =
 (demand (pickV (s 22) (V.d (.bool true)) (s 25)) (fun x1 =>
K (St.mk (upd s 26 x1) o))) := rfl
@[instance] theorem g_law09_ShowWrong_o1_u : UnfAt (opsB C I g_law09_ShowWrong.o1 (St.mk s o) K) g_law09_ShowWrong_o1_sh := Unf.of _
theorem g_law09_ShowWrong_o0_sh : opsB C I (g_law09_ShowWrong.o0F R_o1) (St.mk s o) K =
 (guardK (s 22) false
 (demand (lenSV (s 3)) (fun x1 =>
demand (binV BinOp.gtr x1 (V.d (.int .i64 20))) (fun x2 =>
opsB C I R_o1 (St.mk (look [(0, s 0), (1, s 1), (2, s 2), (3, s 3), (22, (V.d (D.bool false))), (25, x2)]) (looko ([].map fun n => (n, o n)))) K)))
 (opsB C I R_o1 (St.mk (look [(0, s 0), (1, s 1), (2, s 2), (3, s 3), (22, (V.d (D.bool true))), (25, (V.tup []))]) (looko ([].map fun n => (n, o n)))) K)
 (opsB C I R_o1 (St.mk (look [(0, s 0), (1, s 1), (2, s 2), (3, s 3), (22, (V.tup [])), (25, (V.tup []))]) (looko ([].map fun n => (n, o n)))) K)) := rfl
@[instance] theorem g_law09_ShowWrong_o0_u : UnfAt (opsB C I g_law09_ShowWrong.o0 (St.mk s o) K) g_law09_ShowWrong_o0_sh := Unf.of _
theorem g_law09_ShowWrong_c0_sh : wpB C I (g_law09_ShowWrong.c0) (St.mk s o) Q =
 (condK (s 26)
 (callK C I (St.mk s o) (some 27) 172 [] (fun r1 or1 =>
Q .ret (St.mk (look [(8, r1)]) (looko ([].map fun n => (n, or1 n))))))
 (Q .normal (St.mk s o))) := rfl
@[instance] theorem g_law09_ShowWrong_c0_u : UnfAt (wpB C I g_law09_ShowWrong.c0 (St.mk s o) Q) g_law09_ShowWrong_c0_sh := Unf.of _
theorem g_law09_ShowWrong_o3_sh : opsB C I (g_law09_ShowWrong.o3) (St.mk s o) K =
 (demand (pickV (s 36) (V.d (.bool true)) (s 40)) (fun x1 =>
K (St.mk (upd s 41 x1) o))) := rfl
@[instance] theorem g_law09_ShowWrong_o3_u : UnfAt (opsB C I g_law09_ShowWrong.o3 (St.mk s o) K) g_law09_ShowWrong_o3_sh := Unf.of _
theorem g_law09_ShowWrong_o2_sh : opsB C I (g_law09_ShowWrong.o2F R_o3) (St.mk s o) K =
 (guardK (s 36) false
 (demand (faddrV 1 (s 9)) (fun x1 =>
demand (loadV o none x1) (fun x2 =>
demand (lenV o x2) (fun x3 =>
demand (binV BinOp.eql x3 (V.d (.int .i64 0))) (fun x4 =>
opsB C I R_o3 (St.mk (look [(1, s 1), (2, s 2), (3, s 3), (9, s 9), (36, (V.d (D.bool false))), (40, x4)]) (looko ([9].map fun n => (n, o n)))) K)))))
 (opsB C I R_o3 (St.mk (look [(1, s 1), (2, s 2), (3, s 3), (9, s 9), (36, (V.d (D.bool true))), (40, (V.tup []))]) (looko ([9].map fun n => (n, o n)))) K)
 (opsB C I R_o3 (St.mk (look [(1, s 1), (2, s 2), (3, s 3), (9, s 9), (36, (V.tup [])), (40, (V.tup []))]) (looko ([9].map fun n => (n, o n)))) K)) := rfl
@[instance] theorem g_law09_ShowWrong_o2_u : UnfAt (opsB C I g_law09_ShowWrong.o2 (St.mk s o) K) g_law09_ShowWrong_o2_sh := Unf.of _
theorem g_law09_ShowWrong_o5_sh : opsB C I (g_law09_ShowWrong.o5) (St.mk s o) K =
 (demand (pickV (s 46) (s 47) (V.d (.bool false))) (fun x1 =>
K (St.mk (upd (upd s 48 x1) 8 x1) o))) := rfl
@[instance] theorem g_law09_ShowWrong_o5_u : UnfAt (opsB C I g_law09_ShowWrong.o5 (St.mk s o) K) g_law09_ShowWrong_o5_sh := Unf.of _
theorem g_law09_ShowWrong_o4_sh : opsB C I (g_law09_ShowWrong.o4F R_o5) (St.mk s o) K =
 (guardK (s 46) true
 (callK C I (St.mk (upd s 46 (V.d (D.bool true))) o) (some 47) 172 [] (fun r1 or1 =>
opsB C I R_o5 (St.mk (look [(46, (V.d (D.bool true))), (47, r1)]) (looko ([].map fun n => (n, or1 n)))) K))
 (opsB C I R_o5 (St.mk (look [(46, (V.d (D.bool false))), (47, (V.tup []))]) (looko ([].map fun n => (n, o n)))) K)
 (opsB C I R_o5 (St.mk (look [(46, (V.tup [])), (47, (V.tup []))]) (looko ([].map fun n => (n, o n)))) K)) := rfl
@[instance] theorem g_law09_ShowWrong_o4_u : UnfAt (opsB C I g_law09_ShowWrong.o4 (St.mk s o) K) g_law09_ShowWrong_o4_sh := Unf.of _
theorem g_law09_ShowWrong_c1_sh : wpB C I (g_law09_ShowWrong.c1) (St.mk s o) Q =
 (Q .ret (St.mk s o)) := rfl
@[instance] theorem g_law09_ShowWrong_c1_u : UnfAt (wpB C I g_law09_ShowWrong.c1 (St.mk s o) Q) g_law09_ShowWrong_c1_sh := Unf.of _
theorem g_law09_ShowWrong_c2_sh : wpB C I (g_law09_ShowWrong.c2F R_o4 R_c1) (St.mk s o) Q =
 (condK (s 41)
 (demand (faddrV 1 (s 9)) (fun x1 =>
demand (loadV o none x1) (fun x2 =>
demand (lenV o x2) (fun x3 =>
demand (binV BinOp.eql x3 (V.d (.int .i64 0))) (fun x4 =>
opsB C I R_o4 (St.mk (look [(46, x4)]) (looko ([].map fun n => (n, o n)))) (fun st => (seqK (fun st => wpB C I R_c1 st Q) Q) .normal (St.trim st [8] (some []))))))))
 (Q .normal (St.mk s o))) := rfl
@[instance] theorem g_law09_ShowWrong_c2_u : UnfAt (wpB C I g_law09_ShowWrong.c2 (St.mk s o) Q) g_law09_ShowWrong_c2_sh := Unf.of _
theorem g_law09_ShowWrong_o9_sh : opsB C I (g_law09_ShowWrong.o9) (St.mk s o) K =
 (demand (pickV (s 130) (s 131) (V.d (.bool false))) (fun x1 =>
K (St.mk (upd (upd s 132 x1) 8 x1) o))) := rfl
@[instance] theorem g_law09_ShowWrong_o9_u : UnfAt (opsB C I g_law09_ShowWrong.o9 (St.mk s o) K) g_law09_ShowWrong_o9_sh := Unf.of _
theorem g_law09_ShowWrong_o8_sh : opsB C I (g_law09_ShowWrong.o8F R_o9) (St.mk s o) K =
 (guardK (s 130) true
 (callK C I (St.mk (upd s 130 (V.d (D.bool true))) o) (some 131) 172 [] (fun r1 or1 =>
opsB C I R_o9 (St.mk (look [(130, (V.d (D.bool true))), (131, r1)]) (looko ([].map fun n => (n, or1 n)))) K))
 (opsB C I R_o9 (St.mk (look [(130, (V.d (D.bool false))), (131, (V.tup []))]) (looko ([].map fun n => (n, o n)))) K)
 (opsB C I R_o9 (St.mk (look [(130, (V.tup [])), (131, (V.tup []))]) (looko ([].map fun n => (n, o n)))) K)) := rfl
@[instance] theorem g_law09_ShowWrong_o8_u : UnfAt (opsB C I g_law09_ShowWrong.o8 (St.mk s o) K) g_law09_ShowWrong_o8_sh := Unf.of _
theorem g_law09_ShowWrong_o7_sh : opsB C I (g_law09_ShowWrong.o7F R_o8) (St.mk s o) K =
 (demand (pickV (s 126) (s 128) (V.d (.bool false))) (fun x1 =>
opsB C I R_o8 (St.mk (look [(130, x1)]) (looko ([].map fun n => (n, o n)))) K)) := rfl
@[instance] theorem g_law09_ShowWrong_o7_u : UnfAt (opsB C I g_law09_ShowWrong.o7 (St.mk s o) K) g_law09_ShowWrong_o7_sh := Unf.of _
theorem g_law09_ShowWrong_o6_sh : opsB C I (g_law09_ShowWrong.o6F R_o7) (St.mk s o) K =
 (guardK (s 126) true
 (demand (binV BinOp.eql (s 15) (V.d (.int .i64 1))) (fun x1 =>
opsB C I R_o7 (St.mk (look [(126, (V.d (D.bool true))), (128, x1)]) (looko ([].map fun n => (n, o n)))) K))
 (opsB C I R_o7 (St.mk (look [(126, (V.d (D.bool false))), (128, (V.tup []))]) (looko ([].map fun n => (n, o n)))) K)
 (opsB C I R_o7 (St.mk (look [(126, (V.tup [])), (128, (V.tup []))]) (looko ([].map fun n => (n, o n)))) K)) := rfl
@[instance] theorem g_law09_ShowWrong_o6_u : UnfAt (opsB C I g_law09_ShowWrong.o6 (St.mk s o) K) g_law09_ShowWrong_o6_sh := Unf.of _
theorem g_law09_ShowWrong_c3_sh : wpB C I (g_law09_ShowWrong.c3) (St.mk s o) Q =
 (Q .ret (St.mk s o)) := rfl
@[instance] theorem g_law09_ShowWrong_c3_u : UnfAt (wpB C I g_law09_ShowWrong.c3 (St.mk s o) Q) g_law09_ShowWrong_c3_sh := Unf.of _
theorem g_law09_ShowWrong_i22_sh : drawB C I g_law09_ShowWrong.a10 (12 :: []) .done (St.mk s o) K =
 ((s 8) = V.undef ∧ (quietV o ((s 150) :: [(s 150)]) ∧
treeB C I g_law09_ShowWrong.a10 .done (St.mk (upd s 8 (s 150)) o) K)) := rfl
@[instance] theorem g_law09_ShowWrong_i22_u : UnfAt (drawB C I g_law09_ShowWrong.a10 g_law09_ShowWrong.i22 .done (St.mk s o) K) g_law09_ShowWrong_i22_sh := Unf.of _
theorem g_law09_ShowWrong_i21_sh : drawB C I g_law09_ShowWrong.a10 (11 :: R_i22) .done (St.mk s o) K =
 ((s 150) = V.undef ∧ (demand (pickV (s 148) (s 149) (V.d (.bool false))) (fun x1 => quietV o (x1 :: [(s 148), (s 149), (V.d (.bool false))]) ∧
drawB C I g_law09_ShowWrong.a10 R_i22 .done (St.mk (upd s 150 x1) o) K))) := rfl
@[instance] theorem g_law09_ShowWrong_i21_u : UnfAt (drawB C I g_law09_ShowWrong.a10 g_law09_ShowWrong.i21 .done (St.mk s o) K) g_law09_ShowWrong_i21_sh := Unf.of _
theorem g_law09_ShowWrong_i20_sh : drawB C I g_law09_ShowWrong.a10 (10 :: R_i21) .done (St.mk s o) K =
 ((s 149) = V.undef ∧ guardK (s 148) true
 (∃ x1, SoundAt C 172 ⟨[], fun _ => none⟩ ⟨x1, fun _ => none⟩ ∧ (∀ n, V.refs n x1 = false) ∧ quietV o (x1 :: []) ∧
drawB C I g_law09_ShowWrong.a10 R_i21 .done (St.mk (upd s 149 x1) o) K)
 (quietV o ((V.tup []) :: []) ∧
drawB C I g_law09_ShowWrong.a10 R_i21 .done (St.mk (upd s 149 (V.tup [])) o) K)
 (quietV o ((V.tup []) :: []) ∧
drawB C I g_law09_ShowWrong.a10 R_i21 .done (St.mk (upd s 149 (V.tup [])) o) K)) := rfl
@[instance] theorem g_law09_ShowWrong_i20_u : UnfAt (drawB C I g_law09_ShowWrong.a10 g_law09_ShowWrong.i20 .done (St.mk s o) K) g_law09_ShowWrong_i20_sh := Unf.of _
theorem g_law09_ShowWrong_i19_sh : drawB C I g_law09_ShowWrong.a10 (9 :: R_i20) .done (St.mk s o) K =
 ((s 148) = V.undef ∧ (quietV o ((s 147) :: [(s 147)]) ∧
drawB C I g_law09_ShowWrong.a10 R_i20 .done (St.mk (upd s 148 (s 147)) o) K)) := rfl
@[instance] theorem g_law09_ShowWrong_i19_u : UnfAt (drawB C I g_law09_ShowWrong.a10 g_law09_ShowWrong.i19 .done (St.mk s o) K) g_law09_ShowWrong_i19_sh := Unf.of _
theorem g_law09_ShowWrong_i18_sh : drawB C I g_law09_ShowWrong.a10 (8 :: R_i19) .done (St.mk s o) K =
 ((s 147) = V.undef ∧ (demand (pickV (s 141) (s 146) (V.d (.bool false))) (fun x1 => quietV o (x1 :: [(s 141), (s 146), (V.d (.bool false))]) ∧
drawB C I g_law09_ShowWrong.a10 R_i19 .done (St.mk (upd s 147 x1) o) K))) := rfl
@[instance] theorem g_law09_ShowWrong_i18_u : UnfAt (drawB C I g_law09_ShowWrong.a10 g_law09_ShowWrong.i18 .done (St.mk s o) K) g_law09_ShowWrong_i18_sh := Unf.of _
theorem g_law09_ShowWrong_i17_sh : drawB C I g_law09_ShowWrong.a10 (7 :: R_i18) .done (St.mk s o) K =
 ((s 146) = V.undef ∧ guardK (s 141) true
 (∃ x1, SoundAt C 147 ⟨[(s 143), (s 145)], fun _ => none⟩ ⟨x1, fun _ => none⟩ ∧ (∀ n, V.refs n x1 = false) ∧ quietV o (x1 :: [(s 143), (s 145)]) ∧
drawB C I g_law09_ShowWrong.a10 R_i18 .done (St.mk (upd s 146 x1) o) K)
 (quietV o ((V.tup []) :: [(s 143), (s 145)]) ∧
drawB C I g_law09_ShowWrong.a10 R_i18 .done (St.mk (upd s 146 (V.tup [])) o) K)
 (quietV o ((V.tup []) :: [(s 143), (s 145)]) ∧
drawB C I g_law09_ShowWrong.a10 R_i18 .done (St.mk (upd s 146 (V.tup [])) o) K)) := rfl
@[instance] theorem g_law09_ShowWrong_i17_u : UnfAt (drawB C I g_law09_ShowWrong.a10 g_law09_ShowWrong.i17 .done (St.mk s o) K) g_law09_ShowWrong_i17_sh := Unf.of _
theorem g_law09_ShowWrong_i16_sh : drawB C I g_law09_ShowWrong.a10 (6 :: R_i17) .done (St.mk s o) K =
 ((s 145) = V.undef ∧ guardK (s 141) true
 (∃ x1, SoundAt C 179 ⟨[(s 144)], fun _ => none⟩ ⟨x1, fun _ => none⟩ ∧ (∀ n, V.refs n x1 = false) ∧ quietV o (x1 :: [(s 144)]) ∧
drawB C I g_law09_ShowWrong.a10 R_i17 .done (St.mk (upd s 145 x1) o) K)
 (quietV o ((V.tup []) :: [(s 144)]) ∧
drawB C I g_law09_ShowWrong.a10 R_i17 .done (St.mk (upd s 145 (V.tup [])) o) K)
 (quietV o ((V.tup []) :: [(s 144)]) ∧
drawB C I g_law09_ShowWrong.a10 R_i17 .done (St.mk (upd s 145 (V.tup [])) o) K)) := rfl
@[instance] theorem g_law09_ShowWrong_i16_u : UnfAt (drawB C I g_law09_ShowWrong.a10 g_law09_ShowWrong.i16 .done (St.mk s o) K) g_law09_ShowWrong_i16_sh := Unf.of _
theorem g_law09_ShowWrong_i15_sh : drawB C I g_law09_ShowWrong.a10 (2005 :: R_i16) .done (St.mk s o) K =
 ((s 144) = V.undef ∧ guardK (s 141) true
 (demand (loadV o (some 2) (s 16)) (fun x1 => drawB C I g_law09_ShowWrong.a10 R_i16 .done (St.mk (upd s 144 x1) o) K))
 (drawB C I g_law09_ShowWrong.a10 R_i16 .done (St.mk (upd s 144 (V.tup [])) o) K)
 (drawB C I g_law09_ShowWrong.a10 R_i16 .done (St.mk (upd s 144 (V.tup [])) o) K)) := rfl
@[instance] theorem g_law09_ShowWrong_i15_u : UnfAt (drawB C I g_law09_ShowWrong.a10 g_law09_ShowWrong.i15 .done (St.mk s o) K) g_law09_ShowWrong_i15_sh := Unf.of _
theorem g_law09_ShowWrong_i14_sh : drawB C I g_law09_ShowWrong.a10 (4 :: R_i15) .done (St.mk s o) K =
 ((s 143) = V.undef ∧ guardK (s 141) true
 (∃ x1, SoundAt C 179 ⟨[(s 142)], fun _ => none⟩ ⟨x1, fun _ => none⟩ ∧ (∀ n, V.refs n x1 = false) ∧ quietV o (x1 :: [(s 142)]) ∧
drawB C I g_law09_ShowWrong.a10 R_i15 .done (St.mk (upd s 143 x1) o) K)
 (quietV o ((V.tup []) :: [(s 142)]) ∧
drawB C I g_law09_ShowWrong.a10 R_i15 .done (St.mk (upd s 143 (V.tup [])) o) K)
 (quietV o ((V.tup []) :: [(s 142)]) ∧
drawB C I g_law09_ShowWrong.a10 R_i15 .done (St.mk (upd s 143 (V.tup [])) o) K)) := rfl
@[instance] theorem g_law09_ShowWrong_i14_u : UnfAt (drawB C I g_law09_ShowWrong.a10 g_law09_ShowWrong.i14 .done (St.mk s o) K) g_law09_ShowWrong_i14_sh := Unf.of _
theorem g_law09_ShowWrong_i13_sh : drawB C I g_law09_ShowWrong.a10 (2003 :: R_i14) .done (St.mk s o) K =
 ((s 142) = V.undef ∧ guardK (s 141) true
 (demand (loadV o (some 2) (s 12)) (fun x1 => drawB C I g_law09_ShowWrong.a10 R_i14 .done (St.mk (upd s 142 x1) o) K))
 (drawB C I g_law09_ShowWrong.a10 R_i14 .done (St.mk (upd s 142 (V.tup [])) o) K)
 (drawB C I g_law09_ShowWrong.a10 R_i14 .done (St.mk (upd s 142 (V.tup [])) o) K)) := rfl
@[instance] theorem g_law09_ShowWrong_i13_u : UnfAt (drawB C I g_law09_ShowWrong.a10 g_law09_ShowWrong.i13 .done (St.mk s o) K) g_law09_ShowWrong_i13_sh := Unf.of _
theorem g_law09_ShowWrong_i12_sh : drawB C I g_law09_ShowWrong.a10 (2 :: R_i13) .done (St.mk s o) K =
 ((s 141) = V.undef ∧ (quietV o ((s 140) :: [(s 140)]) ∧
drawB C I g_law09_ShowWrong.a10 R_i13 .done (St.mk (upd s 141 (s 140)) o) K)) := rfl
@[instance] theorem g_law09_ShowWrong_i12_u : UnfAt (drawB C I g_law09_ShowWrong.a10 g_law09_ShowWrong.i12 .done (St.mk s o) K) g_law09_ShowWrong_i12_sh := Unf.of _
theorem g_law09_ShowWrong_i11_sh : drawB C I g_law09_ShowWrong.a10 (1 :: R_i12) .done (St.mk s o) K =
 ((s 140) = V.undef ∧ (demand (binV BinOp.eql (s 139) (V.d (.int .i64 0))) (fun x1 => quietV o (x1 :: [(s 139), (V.d (.int .i64 0))]) ∧
drawB C I g_law09_ShowWrong.a10 R_i12 .done (St.mk (upd s 140 x1) o) K))) := rfl
@[instance] theorem g_law09_ShowWrong_i11_u : UnfAt (drawB C I g_law09_ShowWrong.a10 g_law09_ShowWrong.i11 .done (St.mk s o) K) g_law09_ShowWrong_i11_sh := Unf.of _
theorem g_law09_ShowWrong_c4_sh : wpB C I (g_law09_ShowWrong.c4) (St.mk s o) Q =
 (Q .ret (St.mk s o)) := rfl
@[instance] theorem g_law09_ShowWrong_c4_u : UnfAt (wpB C I g_law09_ShowWrong.c4 (St.mk s o) Q) g_law09_ShowWrong_c4_sh := Unf.of _
theorem g_law09_ShowWrong_c5_sh : wpB C I (g_law09_ShowWrong.c5F R_i11 R_c4) (St.mk s o) Q =
 ((s 139) = V.undef ∧ (quietV o ((s 18) :: [(s 18)]) ∧
drawB C I g_law09_ShowWrong.a10 R_i11 .done (St.mk (upd s 139 (s 18)) o) (fun st => (seqK (fun st => wpB C I R_c4 st Q) Q) .normal (St.trim st [8] (some []))))) := rfl
@[instance] theorem g_law09_ShowWrong_c5_u : UnfAt (wpB C I g_law09_ShowWrong.c5 (St.mk s o) Q) g_law09_ShowWrong_c5_sh := Unf.of _
theorem g_law09_ShowWrong_c6_sh : wpB C I (g_law09_ShowWrong.c6F R_c5) (St.mk s o) Q =
 (callK C I (St.mk (upd s 134 (s 14)) o) (some 135) 144 [(s 14)] (fun r1 or1 =>
demand (extV r1 0) (fun x2 =>
demand (extV r1 1) (fun x3 =>
demand (extV r1 2) (fun x4 =>
(¬ I 16 ∧ Fresh (St.mk (upd (upd (upd (upd (upd (upd s 134 (s 14)) 135 r1) 133 r1) 136 x2) 137 x3) 138 x4) or1) 16 (some 16) ∧ V.refsL 16 [V.cap0, V.cap0] = false ∧
storeK (V.ptr 16 0) (cellsV x2) 2 (upd or1 16 (some (Ob.box [V.cap0, V.cap0]))) (fun m5 ob6 =>
wpB C I R_c5 (St.mk (look [(12, s 12), (16, (V.ptr 16 0)), (18, x4)]) (looko ([12, 16, 51, 54].map fun n => (n, (upd (upd or1 16 (some (Ob.box [V.cap0, V.cap0]))) m5 (some ob6)) n)))) Q))))))) := rfl
@[instance] theorem g_law09_ShowWrong_c6_u : UnfAt (wpB C I g_law09_ShowWrong.c6 (St.mk s o) Q) g_law09_ShowWrong_c6_sh := Unf.of _
theorem g_law09_ShowWrong_c7_sh : wpB C I (g_law09_ShowWrong.c7F R_o6 R_c3 R_c6) (St.mk s o) Q =
 (demand (binV BinOp.neq (s 15) (V.d (.int .i64 0))) (fun x1 =>
condK x1
 (demand (binV BinOp.eql (s 14) (V.d (.str []))) (fun x2 =>
opsB C I R_o6 (St.mk (look [(15, s 15), (126, x2)]) (looko ([].map fun n => (n, o n)))) (fun st => (seqK (fun st => wpB C I R_c3 st (seqK (fun st => wpB C I R_c6 st Q) Q)) (seqK (fun st => wpB C I R_c6 st Q) Q)) .normal (St.trim st [8] (some [])))))
 (wpB C I R_c6 (St.mk (look [(12, s 12), (14, s 14), (15, s 15), (123, x1)]) (looko ([12, 51, 54].map fun n => (n, o n)))) Q))) := rfl
@[instance] theorem g_law09_ShowWrong_c7_u : UnfAt (wpB C I g_law09_ShowWrong.c7 (St.mk s o) Q) g_law09_ShowWrong_c7_sh := Unf.of _
theorem g_law09_ShowWrong_c8_sh : wpB C I (g_law09_ShowWrong.c8F R_c7) (St.mk s o) Q =
 (demand (loadV o (some 2) (s 12)) (fun x1 =>
frzK (St.mk (upd s 118 x1) o) [118] (fun st2 =>
callK C I (St.mk st2.s st2.o) (some 119) 174 [(st2.s 118)] (fun r3 or3 =>
demand (extV r3 0) (fun x4 =>
demand (extV r3 1) (fun x5 =>
wpB C I R_c7 (St.mk (look [(12, (st2.s 12)), (14, x4), (15, x5)]) (looko ([12, 51, 54].map fun n => (n, or3 n)))) Q)))))) := rfl
@[instance] theorem g_law09_ShowWrong_c8_u : UnfAt (wpB C I g_law09_ShowWrong.c8 (St.mk s o) Q) g_law09_ShowWrong_c8_sh := Unf.of _
theorem g_law09_ShowWrong_c9_sh : wpB C I (g_law09_ShowWrong.c9F R_c8) (St.mk s o) Q =
 ((s 107) = V.undef ∧ (demand (faddrV 1 (s 12)) (fun x1 => (s 108) = V.undef ∧ (demand (loadV o none x1) (fun x2 => (s 109) = V.undef ∧ (quietV o ((s 1) :: [(s 1)]) ∧
(s 110) = V.undef ∧ (demand (convV IntKind.i64 (s 1)) (fun x4 => quietV o (x4 :: [(s 1)]) ∧
(s 111) = V.undef ∧ (demand (faddrV 1 (s 12)) (fun x5 => (s 112) = V.undef ∧ (demand (loadV o none x5) (fun x6 => (s 113) = V.undef ∧ (demand (lenV o x6) (fun x7 => (s 114) = V.undef ∧ (demand (binV BinOp.rem x4 x7) (fun x8 => quietV o (x8 :: [x4, x7]) ∧
(s 115) = V.undef ∧ (demand (loadV o (some 6) (s 13)) (fun x9 => (s 116) = V.undef ∧ (demand (iaddrV o 6 x2 x8) (fun x10 => (([] : List Nat) = [] ∧ (storeK x10 (cellsV x9) 6 o (fun m11 ob12 =>
wpB C I R_c8 (St.mk (look [(12, s 12)]) (looko ([12, 51, 54].map fun n => (n, (upd o m11 (some ob12)) n)))) Q))))))))))))))))))))))) := rfl
@[instance] theorem g_law09_ShowWrong_c9_u : UnfAt (wpB C I g_law09_ShowWrong.c9 (St.mk s o) Q) g_law09_ShowWrong_c9_sh := Unf.of _
theorem g_law09_ShowWrong_c10_sh : wpB C I (g_law09_ShowWrong.c10F R_c9) (St.mk s o) Q =
 (demand (binV BinOp.quo (s 1) (V.d (.int .u16 256))) (fun x1 =>
demand (binV BinOp.rem x1 (V.d (.int .u16 6))) (fun x2 =>
demand (binV BinOp.eql x2 (V.d (.int .u16 0))) (fun x3 =>
condK x3
 (demand (faddrV 3 (s 13)) (fun x4 =>
demand (loadV (looko ([12, 13, 51, 54].map fun n => (n, o n))) none x4) (fun x5 =>
demand (convV IntKind.i64 (s 2)) (fun x6 =>
demand (binV BinOp.add x5 x6) (fun x7 =>
demand (faddrV 3 (s 13)) (fun x8 =>
storeK x8 (cellsV x7) 1 (looko ([12, 13, 51, 54].map fun n => (n, o n))) (fun m9 ob10 =>
wpB C I R_c9 (St.mk (look [(1, s 1), (12, s 12), (13, s 13)]) (looko ([12, 13, 51, 54].map fun n => (n, (upd (looko ([12, 13, 51, 54].map fun n => (n, o n))) m9 (some ob10)) n)))) Q)))))))
 (demand (binV BinOp.eql x2 (V.d (.int .u16 1))) (fun x11 =>
condK x11
 (demand (faddrV 4 (s 13)) (fun x12 =>
demand (loadV (looko ([12, 13, 51, 54].map fun n => (n, o n))) none x12) (fun x13 =>
demand (convV IntKind.i64 (s 2)) (fun x14 =>
demand (binV BinOp.add x13 x14) (fun x15 =>
demand (faddrV 4 (s 13)) (fun x16 =>
storeK x16 (cellsV x15) 1 (looko ([12, 13, 51, 54].map fun n => (n, o n))) (fun m17 ob18 =>
wpB C I R_c9 (St.mk (look [(1, s 1), (12, s 12), (13, s 13)]) (looko ([12, 13, 51, 54].map fun n => (n, (upd (looko ([12, 13, 51, 54].map fun n => (n, o n))) m17 (some ob18)) n)))) Q)))))))
 (demand (binV BinOp.eql x2 (V.d (.int .u16 2))) (fun x19 =>
condK x19
 (demand (faddrV 5 (s 13)) (fun x20 =>
demand (loadV (looko ([12, 13, 51, 54].map fun n => (n, o n))) none x20) (fun x21 =>
demand (convV IntKind.i64 (s 2)) (fun x22 =>
demand (binV BinOp.add x21 x22) (fun x23 =>
demand (faddrV 5 (s 13)) (fun x24 =>
storeK x24 (cellsV x23) 1 (looko ([12, 13, 51, 54].map fun n => (n, o n))) (fun m25 ob26 =>
wpB C I R_c9 (St.mk (look [(1, s 1), (12, s 12), (13, s 13)]) (looko ([12, 13, 51, 54].map fun n => (n, (upd (looko ([12, 13, 51, 54].map fun n => (n, o n))) m25 (some ob26)) n)))) Q)))))))
 (demand (binV BinOp.eql x2 (V.d (.int .u16 3))) (fun x27 =>
condK x27
 (demand (faddrV 2 (s 13)) (fun x28 =>
demand (loadV (looko ([12, 13, 51, 54].map fun n => (n, o n))) none x28) (fun x29 =>
demand (convV IntKind.i64 (s 2)) (fun x30 =>
demand (binV BinOp.add x29 x30) (fun x31 =>
demand (faddrV 2 (s 13)) (fun x32 =>
storeK x32 (cellsV x31) 1 (looko ([12, 13, 51, 54].map fun n => (n, o n))) (fun m33 ob34 =>
wpB C I R_c9 (St.mk (look [(1, s 1), (12, s 12), (13, s 13)]) (looko ([12, 13, 51, 54].map fun n => (n, (upd (looko ([12, 13, 51, 54].map fun n => (n, o n))) m33 (some ob34)) n)))) Q)))))))
 (demand (binV BinOp.eql x2 (V.d (.int .u16 4))) (fun x35 =>
condK x35
 (demand (faddrV 1 (s 13)) (fun x36 =>
storeK x36 (cellsV (s 3)) 1 (looko ([12, 13, 51, 54].map fun n => (n, o n))) (fun m37 ob38 =>
wpB C I R_c9 (St.mk (look [(1, s 1), (12, s 12), (13, s 13)]) (looko ([12, 13, 51, 54].map fun n => (n, (upd (looko ([12, 13, 51, 54].map fun n => (n, o n))) m37 (some ob38)) n)))) Q)))
 (demand (faddrV 0 (s 13)) (fun x39 =>
storeK x39 (cellsV (s 3)) 1 (looko ([12, 13, 51, 54].map fun n => (n, o n))) (fun m40 ob41 =>
wpB C I R_c9 (St.mk (look [(1, s 1), (12, s 12), (13, s 13)]) (looko ([12, 13, 51, 54].map fun n => (n, (upd (looko ([12, 13, 51, 54].map fun n => (n, o n))) m40 (some ob41)) n)))) Q))))))))))))))) := rfl
@[instance] theorem g_law09_ShowWrong_c10_u : UnfAt (wpB C I g_law09_ShowWrong.c10 (St.mk s o) Q) g_law09_ShowWrong_c10_sh := Unf.of _
theorem g_law09_ShowWrong_c11_sh : wpB C I (g_law09_ShowWrong.c11F R_c10) (St.mk s o) Q =
 ((s 56) = V.undef ∧ (demand (faddrV 1 (s 12)) (fun x1 => (s 57) = V.undef ∧ (demand (loadV o none x1) (fun x2 => (s 58) = V.undef ∧ (quietV o ((s 1) :: [(s 1)]) ∧
(s 59) = V.undef ∧ (demand (convV IntKind.i64 (s 1)) (fun x4 => quietV o (x4 :: [(s 1)]) ∧
(s 60) = V.undef ∧ (demand (faddrV 1 (s 12)) (fun x5 => (s 61) = V.undef ∧ (demand (loadV o none x5) (fun x6 => (s 62) = V.undef ∧ (demand (lenV o x6) (fun x7 => (s 63) = V.undef ∧ (demand (binV BinOp.rem x4 x7) (fun x8 => quietV o (x8 :: [x4, x7]) ∧
(s 64) = V.undef ∧ (demand (iaddrV o 6 x2 x8) (fun x9 => (s 65) = V.undef ∧ (demand (loadV o (some 6) x9) (fun x10 => (([] : List Nat) = [] ∧ ((¬ I 13 ∧ Fresh (St.mk (upd (upd (upd (upd (upd (upd (upd (upd (upd (upd s 56 x1) 57 x2) 58 (s 1)) 59 x4) 60 x5) 61 x6) 62 x7) 63 x8) 64 x9) 65 x10) o) 13 (some 13) ∧ V.refsL 13 [V.d (.str []), V.d (.str []), V.d (.int .i64 0), V.d (.int .i64 0), V.d (.int .i64 0), V.d (.int .i64 0)] = false ∧
(([] : List Nat) = [] ∧ (storeK (V.ptr 13 0) (cellsV x10) 6 (upd o 13 (some (Ob.box [V.d (.str []), V.d (.str []), V.d (.int .i64 0), V.d (.int .i64 0), V.d (.int .i64 0), V.d (.int .i64 0)]))) (fun m11 ob12 =>
wpB C I R_c10 (St.mk (look [(1, s 1), (2, s 2), (3, s 3), (12, s 12), (13, (V.ptr 13 0))]) (looko ([12, 13, 51, 54].map fun n => (n, (upd (upd o 13 (some (Ob.box [V.d (.str []), V.d (.str []), V.d (.int .i64 0), V.d (.int .i64 0), V.d (.int .i64 0), V.d (.int .i64 0)]))) m11 (some ob12)) n)))) Q)))))))))))))))))))))))))) := rfl
@[instance] theorem g_law09_ShowWrong_c11_u : UnfAt (wpB C I g_law09_ShowWrong.c11 (St.mk s o) Q) g_law09_ShowWrong_c11_sh := Unf.of _
theorem g_law09_ShowWrong_c12_sh : wpB C I (g_law09_ShowWrong.c12F R_c11) (St.mk s o) Q =
 ((s 49) = V.undef ∧ (demand (faddrV 0 (s 9)) (fun x1 => quietV o (x1 :: [(s 9)]) ∧
(s 50) = V.undef ∧ (demand (loadV o none x1) (fun x2 => quietV o (x2 :: [x1]) ∧
(s 51) = V.undef ∧ (0 = 0 ∧ quietV o (V.cap0 :: []) ∧
(s 52) = V.undef ∧ (demand (faddrV 1 (s 9)) (fun x4 => quietV o (x4 :: [(s 9)]) ∧
(s 53) = V.undef ∧ (demand (loadV o none x4) (fun x5 => quietV o (x5 :: [x4]) ∧
(([] : List Nat) = [] ∧ ((lstK (readD o x5) (fun ys6 => (∀ e ∈ ys6, e.length = 6) ∧ appK V.cap0
 (ys6.length * 64 ≤ 140737488355328 ∧ ys6.length ≤ 140737488355328 ∧ ¬ I 54 ∧ Fresh (St.mk (upd (upd (upd (upd (upd s 49 x1) 50 x2) 51 V.cap0) 52 x4) 53 x5) o) 54 (some 54) ∧
(([] : List Nat) = [] ∧ (demand ((buildN [V.cap0, V.cap0] [(0, 1, x2), (1, 1, (V.own 54))]).map V.agg) (fun x11 =>
(([] : List Nat) = [] ∧ ((¬ I 12 ∧ Fresh (St.mk (upd (upd (upd (upd (upd (upd (upd s 49 x1) 50 x2) 51 V.cap0) 52 x4) 53 x5) 54 (V.own 54)) 55 x11) (upd o 54 (some (Ob.row 6 ys6)))) 12 (some 12) ∧ V.refsL 12 [V.cap0, V.cap0] = false ∧
(([] : List Nat) = [] ∧ (storeK (V.ptr 12 0) (cellsV x11) 2 (upd (upd o 54 (some (Ob.row 6 ys6))) 12 (some (Ob.box [V.cap0, V.cap0]))) (fun m12 ob13 =>
wpB C I R_c11 (St.mk (look [(1, s 1), (2, s 2), (3, s 3), (12, (V.ptr 12 0))]) (looko ([12, 51, 54].map fun n => (n, (upd (upd (upd o 54 (some (Ob.row 6 ys6))) 12 (some (Ob.box [V.cap0, V.cap0]))) m12 (some ob13)) n)))) Q))))))))) ∧
(([] : List Nat) = [] ∧ ((¬ I 12 ∧ Fresh (St.mk (upd (upd (upd (upd (upd (upd s 49 x1) 50 x2) 51 V.cap0) 52 x4) 53 x5) 54 (V.own 54)) (upd o 54 (some (Ob.row 6 ys6)))) 12 (some 12) ∧ V.refsL 12 [V.cap0, V.cap0] = false ∧
(([] : List Nat) = [] ∧ (demand ((buildN [V.cap0, V.cap0] [(0, 1, x2), (1, 1, (V.own 54))]).map V.agg) (fun x14 =>
(([] : List Nat) = [] ∧ (storeK (V.ptr 12 0) (cellsV x14) 2 (upd (upd o 54 (some (Ob.row 6 ys6))) 12 (some (Ob.box [V.cap0, V.cap0]))) (fun m15 ob16 =>
wpB C I R_c11 (St.mk (look [(1, s 1), (2, s 2), (3, s 3), (12, (V.ptr 12 0))]) (looko ([12, 51, 54].map fun n => (n, (upd (upd (upd o 54 (some (Ob.row 6 ys6))) 12 (some (Ob.box [V.cap0, V.cap0]))) m15 (some ob16)) n)))) Q))))))))))
 (fun m7 => ¬ I m7 ∧ rowK (o m7) (fun z8 es9 => z8 = 6 ∧ (es9.length + ys6.length) * 64 ≤ 140737488355328 ∧ es9.length + ys6.length ≤ 140737488355328 ∧
(([] : List Nat) = [] ∧ (demand ((buildN [V.cap0, V.cap0] [(0, 1, (scrubV m7 x2)), (1, 1, (V.own m7))]).map V.agg) (fun x17 =>
(([] : List Nat) = [] ∧ ((¬ I 12 ∧ Fresh (St.mk (upd (upd (fun t => scrubV m7 ((upd (upd (upd (upd (upd s 49 x1) 50 x2) 51 V.cap0) 52 x4) 53 x5) t)) 54 (V.own m7)) 55 x17) (upd (fun n => (o n).map (Ob.scrub m7)) m7 (some (Ob.row 6 (es9 ++ ys6))))) 12 (some 12) ∧ V.refsL 12 [V.cap0, V.cap0] = false ∧
(([] : List Nat) = [] ∧ (storeK (V.ptr 12 0) (cellsV x17) 2 (upd (upd (fun n => (o n).map (Ob.scrub m7)) m7 (some (Ob.row 6 (es9 ++ ys6)))) 12 (some (Ob.box [V.cap0, V.cap0]))) (fun m18 ob19 =>
wpB C I R_c11 (St.mk (look [(1, ((fun t => scrubV m7 (s t)) 1)), (2, ((fun t => scrubV m7 (s t)) 2)), (3, ((fun t => scrubV m7 (s t)) 3)), (12, (V.ptr 12 0))]) (looko ([12, 51, 54].map fun n => (n, (upd (upd (upd (fun n => (o n).map (Ob.scrub m7)) m7 (some (Ob.row 6 (es9 ++ ys6)))) 12 (some (Ob.box [V.cap0, V.cap0]))) m18 (some ob19)) n)))) Q))))))))) ∧
(([] : List Nat) = [] ∧ ((¬ I 12 ∧ Fresh (St.mk (upd (fun t => scrubV m7 ((upd (upd (upd (upd (upd s 49 x1) 50 x2) 51 V.cap0) 52 x4) 53 x5) t)) 54 (V.own m7)) (upd (fun n => (o n).map (Ob.scrub m7)) m7 (some (Ob.row 6 (es9 ++ ys6))))) 12 (some 12) ∧ V.refsL 12 [V.cap0, V.cap0] = false ∧
(([] : List Nat) = [] ∧ (demand ((buildN [V.cap0, V.cap0] [(0, 1, (scrubV m7 x2)), (1, 1, (V.own m7))]).map V.agg) (fun x20 =>
(([] : List Nat) = [] ∧ (storeK (V.ptr 12 0) (cellsV x20) 2 (upd (upd (fun n => (o n).map (Ob.scrub m7)) m7 (some (Ob.row 6 (es9 ++ ys6)))) 12 (some (Ob.box [V.cap0, V.cap0]))) (fun m21 ob22 =>
wpB C I R_c11 (St.mk (look [(1, ((fun t => scrubV m7 (s t)) 1)), (2, ((fun t => scrubV m7 (s t)) 2)), (3, ((fun t => scrubV m7 (s t)) 3)), (12, (V.ptr 12 0))]) (looko ([12, 51, 54].map fun n => (n, (upd (upd (upd (fun n => (o n).map (Ob.scrub m7)) m7 (some (Ob.row 6 (es9 ++ ys6)))) 12 (some (Ob.box [V.cap0, V.cap0]))) m21 (some ob22)) n)))) Q))))))))))))) ∧ ∀ m, V.cap0 = .own m → ∀ n ob, o n = some ob → Ob.refs m ob = false)) ∧
(([] : List Nat) = [] ∧ ((¬ I 12 ∧ Fresh (St.mk (upd (upd (upd (upd (upd s 49 x1) 50 x2) 51 V.cap0) 52 x4) 53 x5) o) 12 (some 12) ∧ V.refsL 12 [V.cap0, V.cap0] = false ∧
(([] : List Nat) = [] ∧ ((lstK (readD (upd o 12 (some (Ob.box [V.cap0, V.cap0]))) x5) (fun ys23 => (∀ e ∈ ys23, e.length = 6) ∧ appK V.cap0
 (ys23.length * 64 ≤ 140737488355328 ∧ ys23.length ≤ 140737488355328 ∧ ¬ I 54 ∧ Fresh (St.mk (upd (upd (upd (upd (upd (upd s 49 x1) 50 x2) 51 V.cap0) 52 x4) 53 x5) 12 (V.ptr 12 0)) (upd o 12 (some (Ob.box [V.cap0, V.cap0])))) 54 (some 54) ∧
(([] : List Nat) = [] ∧ (demand ((buildN [V.cap0, V.cap0] [(0, 1, x2), (1, 1, (V.own 54))]).map V.agg) (fun x28 =>
(([] : List Nat) = [] ∧ (storeK (V.ptr 12 0) (cellsV x28) 2 (upd (upd o 12 (some (Ob.box [V.cap0, V.cap0]))) 54 (some (Ob.row 6 ys23))) (fun m29 ob30 =>
wpB C I R_c11 (St.mk (look [(1, s 1), (2, s 2), (3, s 3), (12, (V.ptr 12 0))]) (looko ([12, 51, 54].map fun n => (n, (upd (upd (upd o 12 (some (Ob.box [V.cap0, V.cap0]))) 54 (some (Ob.row 6 ys23))) m29 (some ob30)) n)))) Q)))))))
 (fun m24 => ¬ I m24 ∧ rowK ((upd o 12 (some (Ob.box [V.cap0, V.cap0]))) m24) (fun z25 es26 => z25 = 6 ∧ (es26.length + ys23.length) * 64 ≤ 140737488355328 ∧ es26.length + ys23.length ≤ 140737488355328 ∧
(([] : List Nat) = [] ∧ (demand ((buildN [V.cap0, V.cap0] [(0, 1, (scrubV m24 x2)), (1, 1, (V.own m24))]).map V.agg) (fun x31 =>
(([] : List Nat) = [] ∧ (storeK (scrubV m24 (V.ptr 12 0)) (cellsV x31) 2 (upd (fun n => ((upd o 12 (some (Ob.box [V.cap0, V.cap0]))) n).map (Ob.scrub m24)) m24 (some (Ob.row 6 (es26 ++ ys23)))) (fun m32 ob33 =>
wpB C I R_c11 (St.mk (look [(1, ((fun t => scrubV m24 (s t)) 1)), (2, ((fun t => scrubV m24 (s t)) 2)), (3, ((fun t => scrubV m24 (s t)) 3)), (12, (scrubV m24 (V.ptr 12 0)))]) (looko ([12, 51, 54].map fun n => (n, (upd (upd (fun n => ((upd o 12 (some (Ob.box [V.cap0, V.cap0]))) n).map (Ob.scrub m24)) m24 (some (Ob.row 6 (es26 ++ ys23)))) m32 (some ob33)) n)))) Q)))))))))) ∧ ∀ m, V.cap0 = .own m → ∀ n ob, (upd o 12 (some (Ob.box [V.cap0, V.cap0]))) n = some ob → Ob.refs m ob = false))))))))))))))) := rfl
@[instance] theorem g_law09_ShowWrong_c12_u : UnfAt (wpB C I g_law09_ShowWrong.c12 (St.mk s o) Q) g_law09_ShowWrong_c12_sh := Unf.of _
theorem g_law09_ShowWrong_c13_sh : wpB C I (g_law09_ShowWrong.c13F R_o2 R_c2 R_c12) (St.mk s o) Q =
 (demand (binV BinOp.neq (s 11) (V.d (.int .i64 0))) (fun x1 =>
opsB C I R_o2 (St.mk (look [(1, s 1), (2, s 2), (3, s 3), (9, s 9), (36, x1)]) (looko ([9].map fun n => (n, o n)))) (fun st => (seqK (fun st => wpB C I R_c2 st (seqK (fun st => wpB C I R_c12 st Q) Q)) (seqK (fun st => wpB C I R_c12 st Q) Q)) .normal (St.trim st [1, 2, 3, 9, 41] (some [9]))))) := rfl
@[instance] theorem g_law09_ShowWrong_c13_u : UnfAt (wpB C I g_law09_ShowWrong.c13 (St.mk s o) Q) g_law09_ShowWrong_c13_sh := Unf.of _
theorem g_law09_ShowWrong_c14_sh : wpB C I (g_law09_ShowWrong.c14F R_c13) (St.mk s o) Q =
 (callK C I (St.mk (upd s 29 (s 0)) o) (some 30) 144 [(s 0)] (fun r1 or1 =>
demand (extV r1 0) (fun x2 =>
demand (extV r1 1) (fun x3 =>
demand (extV r1 2) (fun x4 =>
(¬ I 9 ∧ Fresh (St.mk (upd (upd (upd (upd (upd (upd s 29 (s 0)) 30 r1) 28 r1) 31 x2) 32 x3) 33 x4) or1) 9 (some 9) ∧ V.refsL 9 [V.cap0, V.cap0] = false ∧
storeK (V.ptr 9 0) (cellsV x2) 2 (upd or1 9 (some (Ob.box [V.cap0, V.cap0]))) (fun m5 ob6 =>
wpB C I R_c13 (St.mk (look [(1, s 1), (2, s 2), (3, s 3), (9, (V.ptr 9 0)), (11, x4)]) (looko ([9].map fun n => (n, (upd (upd or1 9 (some (Ob.box [V.cap0, V.cap0]))) m5 (some ob6)) n)))) Q))))))) := rfl
@[instance] theorem g_law09_ShowWrong_c14_u : UnfAt (wpB C I g_law09_ShowWrong.c14 (St.mk s o) Q) g_law09_ShowWrong_c14_sh := Unf.of _
theorem g_law09_ShowWrong_code_sh : wpB C I (g_law09_ShowWrong.codeF R_o0 R_c0 R_c14) (St.mk s o) Q =
 (demand (lenSV (s 0)) (fun x1 =>
demand (binV BinOp.gtr x1 (V.d (.int .i64 300))) (fun x2 =>
opsB C I R_o0 (St.mk (look [(0, s 0), (1, s 1), (2, s 2), (3, s 3), (22, x2)]) (looko ([].map fun n => (n, o n)))) (fun st => (seqK (fun st => wpB C I R_c0 st (seqK (fun st => wpB C I R_c14 st Q) Q)) (seqK (fun st => wpB C I R_c14 st Q) Q)) .normal (St.trim st [0, 1, 2, 3, 26] (some [])))))) := rfl
@[instance] theorem g_law09_ShowWrong_code_u : UnfAt (wpB C I g_law09_ShowWrong.code (St.mk s o) Q) g_law09_ShowWrong_code_sh := Unf.of _
theorem g_law09_awake_o7_sh : opsB C I (g_law09_awake.o7) (St.mk s o) K =
 (demand (pickV (s 46) (s 48) (V.d (.bool false))) (fun x1 =>
K (St.mk (upd (upd s 49 x1) 0 x1) o))) := rfl
@[instance] theorem g_law09_awake_o7_u : UnfAt (opsB C I g_law09_awake.o7 (St.mk s o) K) g_law09_awake_o7_sh := Unf.of _
theorem g_law09_awake_o6_sh : opsB C I (g_law09_awake.o6F R_o7) (St.mk s o) K =
 (guardK (s 46) true
 (demand (binV BinOp.eql (s 9) (V.d (.int .i64 0))) (fun x1 =>
opsB C I R_o7 (St.mk (look [(46, (V.d (D.bool true))), (48, x1)]) (looko ([].map fun n => (n, o n)))) K))
 (opsB C I R_o7 (St.mk (look [(46, (V.d (D.bool false))), (48, (V.tup []))]) (looko ([].map fun n => (n, o n)))) K)
 (opsB C I R_o7 (St.mk (look [(46, (V.tup [])), (48, (V.tup []))]) (looko ([].map fun n => (n, o n)))) K)) := rfl
@[instance] theorem g_law09_awake_o6_u : UnfAt (opsB C I g_law09_awake.o6 (St.mk s o) K) g_law09_awake_o6_sh := Unf.of _
theorem g_law09_awake_o5_sh : opsB C I (g_law09_awake.o5F R_o6) (St.mk s o) K =
 (demand (pickV (s 42) (s 44) (V.d (.bool false))) (fun x1 =>
opsB C I R_o6 (St.mk (look [(9, s 9), (46, x1)]) (looko ([].map fun n => (n, o n)))) K)) := rfl
@[instance] theorem g_law09_awake_o5_u : UnfAt (opsB C I g_law09_awake.o5 (St.mk s o) K) g_law09_awake_o5_sh := Unf.of _
theorem g_law09_awake_o4_sh : opsB C I (g_law09_awake.o4F R_o5) (St.mk s o) K =
 (guardK (s 42) true
 (demand (binV BinOp.eql (s 8) (V.d (.str [49, 32, 43, 32, 50]))) (fun x1 =>
opsB C I R_o5 (St.mk (look [(9, s 9), (42, (V.d (D.bool true))), (44, x1)]) (looko ([].map fun n => (n, o n)))) K))
 (opsB C I R_o5 (St.mk (look [(9, s 9), (42, (V.d (D.bool false))), (44, (V.tup []))]) (looko ([].map fun n => (n, o n)))) K)
 (opsB C I R_o5 (St.mk (look [(9, s 9), (42, (V.tup [])), (44, (V.tup []))]) (looko ([].map fun n => (n, o n)))) K)) := rfl
@[instance] theorem g_law09_awake_o4_u : UnfAt (opsB C I g_law09_awake.o4 (St.mk s o) K) g_law09_awake_o4_sh := Unf.of _
theorem g_law09_awake_o3_sh : opsB C I (g_law09_awake.o3F R_o4) (St.mk s o) K =
 (demand (pickV (s 38) (s 40) (V.d (.bool false))) (fun x1 =>
opsB C I R_o4 (St.mk (look [(8, s 8), (9, s 9), (42, x1)]) (looko ([].map fun n => (n, o n)))) K)) := rfl
@[instance] theorem g_law09_awake_o3_u : UnfAt (opsB C I g_law09_awake.o3 (St.mk s o) K) g_law09_awake_o3_sh := Unf.of _
theorem g_law09_awake_o2_sh : opsB C I (g_law09_awake.o2F R_o3) (St.mk s o) K =
 (guardK (s 38) true
 (demand (binV BinOp.eql (s 7) (V.d (.int .i64 1))) (fun x1 =>
opsB C I R_o3 (St.mk (look [(8, s 8), (9, s 9), (38, (V.d (D.bool true))), (40, x1)]) (looko ([].map fun n => (n, o n)))) K))
 (opsB C I R_o3 (St.mk (look [(8, s 8), (9, s 9), (38, (V.d (D.bool false))), (40, (V.tup []))]) (looko ([].map fun n => (n, o n)))) K)
 (opsB C I R_o3 (St.mk (look [(8, s 8), (9, s 9), (38, (V.tup [])), (40, (V.tup []))]) (looko ([].map fun n => (n, o n)))) K)) := rfl
@[instance] theorem g_law09_awake_o2_u : UnfAt (opsB C I g_law09_awake.o2 (St.mk s o) K) g_law09_awake_o2_sh := Unf.of _
theorem g_law09_awake_o1_sh : opsB C I (g_law09_awake.o1F R_o2) (St.mk s o) K =
 (demand (pickV (s 34) (s 36) (V.d (.bool false))) (fun x1 =>
opsB C I R_o2 (St.mk (look [(7, s 7), (8, s 8), (9, s 9), (38, x1)]) (looko ([].map fun n => (n, o n)))) K)) := rfl
@[instance] theorem g_law09_awake_o1_u : UnfAt (opsB C I g_law09_awake.o1 (St.mk s o) K) g_law09_awake_o1_sh := Unf.of _
theorem g_law09_awake_o0_sh : opsB C I (g_law09_awake.o0F R_o1) (St.mk s o) K =
 (guardK (s 34) true
 (demand (binV BinOp.eql (s 5) (V.d (.int .i64 0))) (fun x1 =>
opsB C I R_o1 (St.mk (look [(7, s 7), (8, s 8), (9, s 9), (34, (V.d (D.bool true))), (36, x1)]) (looko ([].map fun n => (n, o n)))) K))
 (opsB C I R_o1 (St.mk (look [(7, s 7), (8, s 8), (9, s 9), (34, (V.d (D.bool false))), (36, (V.tup []))]) (looko ([].map fun n => (n, o n)))) K)
 (opsB C I R_o1 (St.mk (look [(7, s 7), (8, s 8), (9, s 9), (34, (V.tup [])), (36, (V.tup []))]) (looko ([].map fun n => (n, o n)))) K)) := rfl
@[instance] theorem g_law09_awake_o0_u : UnfAt (opsB C I g_law09_awake.o0 (St.mk s o) K) g_law09_awake_o0_sh := Unf.of _
theorem g_law09_awake_c0_sh : wpB C I (g_law09_awake.c0) (St.mk s o) Q =
 (Q .ret (St.mk s o)) := rfl
@[instance] theorem g_law09_awake_c0_u : UnfAt (wpB C I g_law09_awake.c0 (St.mk s o) Q) g_law09_awake_c0_sh := Unf.of _
theorem g_law09_awake_c1_sh : wpB C I (g_law09_awake.c1F R_o0 R_c0) (St.mk s o) Q =
 (demand (binV BinOp.eql (s 4) (V.d (.str [108, 101, 116, 32, 97, 32, 61, 32, 40, 49, 32, 43, 32, 50, 41, 32, 42, 32, 98, 59, 10]))) (fun x1 =>
opsB C I R_o0 (St.mk (look [(5, s 5), (7, s 7), (8, s 8), (9, s 9), (34, x1)]) (looko ([].map fun n => (n, o n)))) (fun st => (seqK (fun st => wpB C I R_c0 st Q) Q) .normal (St.trim st [0] (some []))))) := rfl
@[instance] theorem g_law09_awake_c1_u : UnfAt (wpB C I g_law09_awake.c1 (St.mk s o) Q) g_law09_awake_c1_sh := Unf.of _
theorem g_law09_awake_c2_sh : wpB C I (g_law09_awake.c2F R_c1) (St.mk s o) Q =
 (demand (loadV o (some 2) (s 1)) (fun x1 =>
callK C I (St.mk (upd s 28 x1) o) (some 29) 175 [x1, (V.d (.int .i64 2))] (fun r2 or2 =>
demand (extV r2 0) (fun x3 =>
demand (extV r2 1) (fun x4 =>
wpB C I R_c1 (St.mk (look [(4, s 4), (5, s 5), (7, s 7), (8, x3), (9, x4)]) (looko ([].map fun n => (n, or2 n)))) Q))))) := rfl
@[instance] theorem g_law09_awake_c2_u : UnfAt (wpB C I g_law09_awake.c2 (St.mk s o) Q) g_law09_awake_c2_sh := Unf.of _
theorem g_law09_awake_c3_sh : wpB C I (g_law09_awake.c3F R_c2) (St.mk s o) Q =
 (demand ((buildN [V.d (.str []), V.d (.str []), V.d (.int .i64 0)] []).map V.agg) (fun x1 =>
lstK (partsN 3 [x1]) (fun es2 =>
demand ((buildN [V.cap0, V.cap0] [(0, 1, (V.d (D.sl es2)))]).map V.agg) (fun x3 =>
callK C I (St.mk (upd (upd (upd s 21 x1) 22 (V.d (D.sl es2))) 23 x3) o) (some 24) 174 [x3] (fun r4 or4 =>
demand (extV r4 0) (fun x5 =>
demand (extV r4 1) (fun x6 =>
wpB C I R_c2 (St.mk (look [(1, s 1), (4, s 4), (5, s 5), (7, x6)]) (looko ([1].map fun n => (n, or4 n)))) Q))))))) := rfl
@[instance] theorem g_law09_awake_c3_u : UnfAt (wpB C I g_law09_awake.c3 (St.mk s o) Q) g_law09_awake_c3_sh := Unf.of _
theorem g_law09_awake_c4_sh : wpB C I (g_law09_awake.c4F R_c3) (St.mk s o) Q =
 (demand (loadV o (some 2) (s 1)) (fun x1 =>
callK C I (St.mk (upd s 16 x1) o) (some 17) 174 [x1] (fun r2 or2 =>
demand (extV r2 0) (fun x3 =>
demand (extV r2 1) (fun x4 =>
wpB C I R_c3 (St.mk (look [(1, s 1), (4, x3), (5, x4)]) (looko ([1].map fun n => (n, or2 n)))) Q))))) := rfl
@[instance] theorem g_law09_awake_c4_u : UnfAt (wpB C I g_law09_awake.c4 (St.mk s o) Q) g_law09_awake_c4_sh := Unf.of _
theorem g_law09_awake_code_sh : wpB C I (g_law09_awake.codeF R_c4) (St.mk s o) Q =
 (callK C I (St.mk (look []) (looko ([].map fun n => (n, o n)))) (some 11) 144 [(V.d (.str [108, 101, 116, 32, 97, 61, 40, 49, 43, 50, 41, 42, 98, 59]))] (fun r1 or1 =>
demand (extV r1 0) (fun x2 =>
demand (extV r1 1) (fun x3 =>
demand (extV r1 2) (fun x4 =>
(¬ I 1 ∧ Fresh (St.mk (upd (upd (upd (upd (upd (look []) 11 r1) 10 r1) 12 x2) 13 x3) 14 x4) or1) 1 (some 1) ∧ V.refsL 1 [V.cap0, V.cap0] = false ∧
storeK (V.ptr 1 0) (cellsV x2) 2 (upd or1 1 (some (Ob.box [V.cap0, V.cap0]))) (fun m5 ob6 =>
wpB C I R_c4 (St.mk (look [(1, (V.ptr 1 0))]) (looko ([1].map fun n => (n, (upd (upd or1 1 (some (Ob.box [V.cap0, V.cap0]))) m5 (some ob6)) n)))) Q))))))) := rfl
@[instance] theorem g_law09_awake_code_u : UnfAt (wpB C I g_law09_awake.code (St.mk s o) Q) g_law09_awake_code_sh := Unf.of _
theorem g_tree_Parse_o1_sh : opsB C I (g_tree_Parse.o1) (St.mk s o) K =
 (demand (pickV (s 32) (s 37) (V.d (.bool false))) (fun x1 =>
K (St.mk (upd s 38 x1) o))) := rfl
@[instance] theorem g_tree_Parse_o1_u : UnfAt (opsB C I g_tree_Parse.o1 (St.mk s o) K) g_tree_Parse_o1_sh := Unf.of _
theorem g_tree_Parse_o0_sh : opsB C I (g_tree_Parse.o0F R_o1) (St.mk s o) K =
 (guardK (s 32) true
 (demand (nilcV (s 8)) (fun x1 =>
demand (faddrV 5 x1) (fun x2 =>
demand (loadV o none x2) (fun x3 =>
demand (binV BinOp.eql x3 (V.d (.int .i64 0))) (fun x4 =>
opsB C I R_o1 (St.mk (look [(2, s 2), (5, s 5), (8, s 8), (32, (V.d (D.bool true))), (37, x4)]) o) K)))))
 (opsB C I R_o1 (St.mk (look [(2, s 2), (5, s 5), (8, s 8), (32, (V.d (D.bool false))), (37, (V.tup []))]) o) K)
 (opsB C I R_o1 (St.mk (look [(2, s 2), (5, s 5), (8, s 8), (32, (V.tup [])), (37, (V.tup []))]) o) K)) := rfl
@[instance] theorem g_tree_Parse_o0_u : UnfAt (opsB C I g_tree_Parse.o0 (St.mk s o) K) g_tree_Parse_o0_sh := Unf.of _
theorem g_tree_Parse_c0_sh : wpB C I (g_tree_Parse.c0) (St.mk s o) Q =
 (condK (s 38)
 (Q .normal (St.mk s o))
 (Q (.exit 0) (St.mk s o))) := rfl
@[instance] theorem g_tree_Parse_c0_u : UnfAt (wpB C I g_tree_Parse.c0 (St.mk s o) Q) g_tree_Parse_c0_sh := Unf.of _
theorem g_tree_Parse_c1_sh : wpB C I (g_tree_Parse.c1) (St.mk s o) Q =
 (callK C I (St.mk (upd s 39 (s 8)) o) (some 40) 153 [(s 8)] (fun r1 or1 =>
Q .normal (St.mk (look [(2, s 2), (5, s 5), (8, s 8)]) or1))) := rfl
@[instance] theorem g_tree_Parse_c1_u : UnfAt (wpB C I g_tree_Parse.c1 (St.mk s o) Q) g_tree_Parse_c1_sh := Unf.of _
theorem g_tree_Parse_l0_sh (hL : R_l0 = g_tree_Parse.l0F R_o0 R_c0 R_c1)
 (h : demand (nilcV (s 8)) (fun x1 =>
demand (faddrV 2 x1) (fun x2 =>
demand (loadV o none x2) (fun x3 =>
demand (lenV o (s 5)) (fun x4 =>
demand (binV BinOp.lss x3 x4) (fun x5 =>
opsB C I R_o0 (St.mk (look [(2, s 2), (5, s 5), (8, s 8), (32, x5)]) o) (fun st => (seqK (fun st => wpB C I R_c0 st (seqK (fun st => wpB C I R_c1 st (seqK (fun s => wpB C I R_l0 s Q) Q)) (seqK (fun s => wpB C I R_l0 s Q) Q))) (seqK (fun st => wpB C I R_c1 st (seqK (fun s => wpB C I R_l0 s Q) Q)) (seqK (fun s => wpB C I R_l0 s Q) Q))) .normal (St.trim st [2, 5, 8, 38] none)))))))) : wpB C I R_l0 (St.mk s o) Q := w_loopC hL h
theorem g_tree_Parse_c2_sh : wpB C I (g_tree_Parse.c2) (St.mk s o) Q =
 (demand (nilcV (s 8)) (fun x1 =>
demand (faddrV 3 x1) (fun x2 =>
demand (loadV o (some 2) x2) (fun x3 =>
storeK (s 2) (cellsV x3) 2 o (fun m4 ob5 =>
Q .ret (St.mk (look [(2, s 2), (3, (V.d (.int .i64 0))), (4, (V.d (.int .i64 0)))]) (upd o m4 (some ob5)))))))) := rfl
@[instance] theorem g_tree_Parse_c2_u : UnfAt (wpB C I g_tree_Parse.c2 (St.mk s o) Q) g_tree_Parse_c2_sh := Unf.of _
theorem g_tree_Parse_c3_sh : wpB C I (g_tree_Parse.c3F R_c2) (St.mk s o) Q =
 (demand (nilcV (s 8)) (fun x1 =>
demand (faddrV 5 x1) (fun x2 =>
demand (loadV o none x2) (fun x3 =>
demand (binV BinOp.neq x3 (V.d (.int .i64 0))) (fun x4 =>
condK x4
 (V.undef = V.undef ∧ (demand ((buildN [V.cap0, V.cap0] []).map V.agg) (fun x5 => quietV o (x5 :: []) ∧
V.undef = V.undef ∧ (quietV o ((s 8) :: [(s 8)]) ∧
V.undef = V.undef ∧ (demand (nilcV (s 8)) (fun x7 => quietV o (x7 :: [(s 8)]) ∧
V.undef = V.undef ∧ (demand (faddrV 6 x7) (fun x8 => quietV o (x8 :: [x7]) ∧
V.undef = V.undef ∧ (demand (loadV o none x8) (fun x9 => quietV o (x9 :: [x8]) ∧
watchV o [(s 2)] [x8] ∧
V.undef = V.undef ∧ (quietV o ((s 8) :: [(s 8)]) ∧
V.undef = V.undef ∧ (demand (nilcV (s 8)) (fun x11 => quietV o (x11 :: [(s 8)]) ∧
V.undef = V.undef ∧ (demand (faddrV 5 x11) (fun x12 => quietV o (x12 :: [x11]) ∧
V.undef = V.undef ∧ (demand (loadV o none x12) (fun x13 => quietV o (x13 :: [x12]) ∧
watchV o [(s 2)] [x12] ∧
(([] : List Nat) = [] ∧ (storeK (s 2) (cellsV x5) 2 o (fun m14 ob15 =>
(([] : List Nat) = [] ∧ ((([] : List Nat) = [] ∧ (Q .ret (St.mk (look [(2, s 2), (3, x9), (4, x13)]) (upd o m14 (some ob15)))))))))))))))))))))))))))
 (wpB C I R_c2 (St.mk (look [(2, s 2), (8, s 8), (45, x4)]) o) Q)))))) := rfl
@[instance] theorem g_tree_Parse_c3_u : UnfAt (wpB C I g_tree_Parse.c3 (St.mk s o) Q) g_tree_Parse_c3_sh := Unf.of _
theorem g_tree_Parse_c4_sh : wpB C I (g_tree_Parse.c4F R_l0 R_c3) (St.mk s o) Q =
 (wpB C I R_l0 (St.mk s o) (blockK 0 [2, 8] none (seqK (fun st => wpB C I R_c3 st Q) Q))) := rfl
@[instance] theorem g_tree_Parse_c4_u : UnfAt (wpB C I g_tree_Parse.c4 (St.mk s o) Q) g_tree_Parse_c4_sh := Unf.of _
theorem g_tree_Parse_c5_sh : wpB C I (g_tree_Parse.c5F R_c4) (St.mk s o) Q =
 (demand (lenSV (s 0)) (fun x1 =>
demand ((buildN [V.cap0, V.d (.int .i64 0), V.d (.int .i64 0), V.cap0, V.cap0, V.d (.int .i64 0), V.d (.int .i64 0)] [(0, 1, (s 5)), (1, 1, x1)]).map V.agg) (fun x2 =>
lstK (cellsV x2) (fun c3 => c3.length = 7 ∧ ¬ I 24 ∧ Fresh (St.mk (upd (upd (upd (upd s 20 (s 5)) 21 (s 0)) 22 x1) 23 x2) o) 24 (some 24) ∧ V.refsL 24 c3 = false ∧
wpB C I R_c4 (St.mk (look [(2, s 2), (5, s 5), (8, (V.ptr 24 0))]) (upd o 24 (some (Ob.box c3)))) Q)))) := rfl
@[instance] theorem g_tree_Parse_c5_u : UnfAt (wpB C I g_tree_Parse.c5 (St.mk s o) Q) g_tree_Parse_c5_sh := Unf.of _
theorem g_tree_Parse_c6_sh : wpB C I (g_tree_Parse.c6F R_c5) (St.mk s o) Q =
 (demand (binV BinOp.neq (s 7) (V.d (.int .i64 0))) (fun x1 =>
condK x1
 (demand ((buildN [V.cap0, V.cap0] []).map V.agg) (fun x2 =>
storeK (s 2) (cellsV x2) 2 o (fun m3 ob4 =>
Q .ret (St.mk (look [(2, s 2), (3, s 6), (4, s 7)]) (upd o m3 (some ob4))))))
 (wpB C I R_c5 (St.mk (look [(0, s 0), (2, s 2), (5, s 5), (6, s 6), (7, s 7), (16, x1)]) o) Q))) := rfl
@[instance] theorem g_tree_Parse_c6_u : UnfAt (wpB C I g_tree_Parse.c6 (St.mk s o) Q) g_tree_Parse_c6_sh := Unf.of _
theorem g_tree_Parse_code_sh : wpB C I (g_tree_Parse.codeF R_c6) (St.mk s o) Q =
 ((¬ I 2 ∧ Fresh (St.mk s o) 2 (some 2) ∧ V.refsL 2 [V.cap0, V.cap0] = false ∧
callK C I (St.mk (upd (look [(0, s 0), (2, (V.ptr 2 0))]) 10 (s 0)) (upd o 2 (some (Ob.box [V.cap0, V.cap0])))) (some 11) 74 [(s 0)] (fun r1 or1 =>
demand (extV r1 0) (fun x2 =>
demand (extV r1 1) (fun x3 =>
demand (extV r1 2) (fun x4 =>
wpB C I R_c6 (St.mk (look [(0, s 0), (2, (V.ptr 2 0)), (5, x2), (6, x3), (7, x4)]) or1) Q)))))) := rfl
@[instance] theorem g_tree_Parse_code_u : UnfAt (wpB C I g_tree_Parse.code (St.mk s o) Q) g_tree_Parse_code_sh := Unf.of _
theorem g_show_Text_o1_sh : opsB C I (g_show_Text.o1) (St.mk s o) K =
 (demand (pickV (s 21) (V.d (.bool true)) (s 25)) (fun x1 =>
K (St.mk (upd s 26 x1) o))) := rfl
@[instance] theorem g_show_Text_o1_u : UnfAt (opsB C I g_show_Text.o1 (St.mk s o) K) g_show_Text_o1_sh := Unf.of _
theorem g_show_Text_o0_sh : opsB C I (g_show_Text.o0F R_o1) (St.mk s o) K =
 (guardK (s 21) false
 (demand (loadV o (some 2) (s 1)) (fun x1 =>
demand (loadV o (some 2) (s 5)) (fun x2 =>
callK C I (St.mk (upd (upd (upd (upd (upd s 21 (V.d (D.bool false))) 22 x1) 21 (V.d (D.bool false))) 23 x2) 21 (V.d (D.bool false))) o) (some 24) 199 [x1, x2] (fun r3 or3 =>
demand (unV UnOp.not r3) (fun x4 =>
opsB C I R_o1 (St.mk (look [(4, s 4), (21, (V.d (D.bool false))), (25, x4)]) (looko ([].map fun n => (n, or3 n)))) K)))))
 (opsB C I R_o1 (St.mk (look [(4, s 4), (21, (V.d (D.bool true))), (25, (V.tup []))]) (looko ([].map fun n => (n, o n)))) K)
 (opsB C I R_o1 (St.mk (look [(4, s 4), (21, (V.tup [])), (25, (V.tup []))]) (looko ([].map fun n => (n, o n)))) K)) := rfl
@[instance] theorem g_show_Text_o0_u : UnfAt (opsB C I g_show_Text.o0 (St.mk s o) K) g_show_Text_o0_sh := Unf.of _
theorem g_show_Text_c0_sh : wpB C I (g_show_Text.c0) (St.mk s o) Q =
 (condK (s 26)
 (Q .ret (St.mk (look [(2, (V.d (.str []))), (3, (V.d (.int .i64 1)))]) (looko ([].map fun n => (n, o n)))))
 (Q .normal (St.mk s o))) := rfl
@[instance] theorem g_show_Text_c0_u : UnfAt (wpB C I g_show_Text.c0 (St.mk s o) Q) g_show_Text_c0_sh := Unf.of _
theorem g_show_Text_c1_sh : wpB C I (g_show_Text.c1) (St.mk s o) Q =
 (Q .ret (St.mk (look [(2, s 4), (3, (V.d (.int .i64 0)))]) (looko ([].map fun n => (n, o n))))) := rfl
@[instance] theorem g_show_Text_c1_u : UnfAt (wpB C I g_show_Text.c1 (St.mk s o) Q) g_show_Text_c1_sh := Unf.of _
theorem g_show_Text_c2_sh : wpB C I (g_show_Text.c2F R_o0 R_c0 R_c1) (St.mk s o) Q =
 (demand (binV BinOp.neq (s 7) (V.d (.int .i64 0))) (fun x1 =>
opsB C I R_o0 (St.mk (look [(1, s 1), (4, s 4), (5, s 5), (21, x1)]) (looko ([1, 5].map fun n => (n, o n)))) (fun st => (seqK (fun st => wpB C I R_c0 st (seqK (fun st => wpB C I R_c1 st Q) Q)) (seqK (fun st => wpB C I R_c1 st Q) Q)) .normal (St.trim st [4, 26] (some []))))) := rfl
@[instance] theorem g_show_Text_c2_u : UnfAt (wpB C I g_show_Text.c2 (St.mk s o) Q) g_show_Text_c2_sh := Unf.of _
theorem g_show_Text_c3_sh : wpB C I (g_show_Text.c3F R_c2) (St.mk s o) Q =
 (demand (loadV o (some 2) (s 1)) (fun x1 =>
callK C I (St.mk (upd s 11 x1) o) (some 12) 198 [x1] (fun r2 or2 =>
callK C I (St.mk (upd (look [(1, s 1), (4, r2)]) 14 r2) (looko ([1].map fun n => (n, or2 n)))) (some 15) 144 [r2] (fun r3 or3 =>
demand (extV r3 0) (fun x4 =>
demand (extV r3 1) (fun x5 =>
demand (extV r3 2) (fun x6 =>
(¬ I 5 ∧ Fresh (St.mk (upd (upd (upd (upd (upd (upd (look [(1, s 1), (4, r2)]) 14 r2) 15 r3) 13 r3) 16 x4) 17 x5) 18 x6) or3) 5 (some 5) ∧ V.refsL 5 [V.cap0, V.cap0] = false ∧
storeK (V.ptr 5 0) (cellsV x4) 2 (upd or3 5 (some (Ob.box [V.cap0, V.cap0]))) (fun m7 ob8 =>
wpB C I R_c2 (St.mk (look [(1, s 1), (4, r2), (5, (V.ptr 5 0)), (7, x6)]) (looko ([1, 5].map fun n => (n, (upd (upd or3 5 (some (Ob.box [V.cap0, V.cap0]))) m7 (some ob8)) n)))) Q))))))))) := rfl
@[instance] theorem g_show_Text_c3_u : UnfAt (wpB C I g_show_Text.c3 (St.mk s o) Q) g_show_Text_c3_sh := Unf.of _
theorem g_show_Text_code_sh : wpB C I (g_show_Text.codeF R_c3) (St.mk s o) Q =
 (lstK (cellsV (s 0)) (fun c1 => c1.length = 2 ∧ ¬ I 1 ∧ Fresh (St.mk s o) 1 (some 1) ∧ V.refsL 1 c1 = false ∧
demand (loadV (looko ([1].map fun n => (n, (upd o 1 (some (Ob.box c1))) n))) (some 2) (V.ptr 1 0)) (fun x2 =>
callK C I (St.mk (upd (look [(1, (V.ptr 1 0))]) 8 x2) (looko ([1].map fun n => (n, (upd o 1 (some (Ob.box c1))) n)))) (some 9) 197 [x2] (fun r3 or3 =>
demand (unV UnOp.not r3) (fun x4 =>
condK x4
 (Q .ret (St.mk (look [(2, (V.d (.str []))), (3, (V.d (.int .i64 1)))]) (looko ([].map fun n => (n, or3 n)))))
 (wpB C I R_c3 (St.mk (look [(1, (V.ptr 1 0)), (10, x4)]) (looko ([1].map fun n => (n, or3 n)))) Q)))))) := rfl
@[instance] theorem g_show_Text_code_u : UnfAt (wpB C I g_show_Text.code (St.mk s o) Q) g_show_Text_code_sh := Unf.of _
theorem g_show_Expr_o3_sh : opsB C I (g_show_Expr.o3) (St.mk s o) K =
 (demand (pickV (s 19) (V.d (.bool true)) (s 24)) (fun x1 =>
K (St.mk (upd s 25 x1) o))) := rfl
@[instance] theorem g_show_Expr_o3_u : UnfAt (opsB C I g_show_Expr.o3 (St.mk s o) K) g_show_Expr_o3_sh := Unf.of _
theorem g_show_Expr_o2_sh : opsB C I (g_show_Expr.o2F R_o3) (St.mk s o) K =
 (guardK (s 19) false
 (demand (faddrV 1 (s 2)) (fun x1 =>
demand (loadV o none x1) (fun x2 =>
demand (lenV o x2) (fun x3 =>
demand (binV BinOp.geq (s 1) x3) (fun x4 =>
opsB C I R_o3 (St.mk (look [(1, s 1), (2, s 2), (19, (V.d (D.bool false))), (24, x4)]) (looko ([2].map fun n => (n, o n)))) K)))))
 (opsB C I R_o3 (St.mk (look [(1, s 1), (2, s 2), (19, (V.d (D.bool true))), (24, (V.tup []))]) (looko ([2].map fun n => (n, o n)))) K)
 (opsB C I R_o3 (St.mk (look [(1, s 1), (2, s 2), (19, (V.tup [])), (24, (V.tup []))]) (looko ([2].map fun n => (n, o n)))) K)) := rfl
@[instance] theorem g_show_Expr_o2_u : UnfAt (opsB C I g_show_Expr.o2 (St.mk s o) K) g_show_Expr_o2_sh := Unf.of _
theorem g_show_Expr_o1_sh : opsB C I (g_show_Expr.o1F R_o2) (St.mk s o) K =
 (demand (pickV (s 15) (V.d (.bool true)) (s 17)) (fun x1 =>
opsB C I R_o2 (St.mk (look [(1, s 1), (2, s 2), (19, x1)]) (looko ([2].map fun n => (n, o n)))) K)) := rfl
@[instance] theorem g_show_Expr_o1_u : UnfAt (opsB C I g_show_Expr.o1 (St.mk s o) K) g_show_Expr_o1_sh := Unf.of _
theorem g_show_Expr_o0_sh : opsB C I (g_show_Expr.o0F R_o1) (St.mk s o) K =
 (guardK (s 15) false
 (demand (binV BinOp.lss (s 1) (V.d (.int .i64 0))) (fun x1 =>
opsB C I R_o1 (St.mk (look [(1, s 1), (2, s 2), (15, (V.d (D.bool false))), (17, x1)]) (looko ([2].map fun n => (n, o n)))) K))
 (opsB C I R_o1 (St.mk (look [(1, s 1), (2, s 2), (15, (V.d (D.bool true))), (17, (V.tup []))]) (looko ([2].map fun n => (n, o n)))) K)
 (opsB C I R_o1 (St.mk (look [(1, s 1), (2, s 2), (15, (V.tup [])), (17, (V.tup []))]) (looko ([2].map fun n => (n, o n)))) K)) := rfl
@[instance] theorem g_show_Expr_o0_u : UnfAt (opsB C I g_show_Expr.o0 (St.mk s o) K) g_show_Expr_o0_sh := Unf.of _
theorem g_show_Expr_c0_sh : wpB C I (g_show_Expr.c0) (St.mk s o) Q =
 (condK (s 25)
 (Q .ret (St.mk (look [(4, (V.d (.str []))), (5, (V.d (.int .i64 1)))]) (looko ([].map fun n => (n, o n)))))
 (Q .normal (St.mk s o))) := rfl
@[instance] theorem g_show_Expr_c0_u : UnfAt (wpB C I g_show_Expr.c0 (St.mk s o) Q) g_show_Expr_c0_sh := Unf.of _
theorem g_show_Expr_c1_sh : wpB C I (g_show_Expr.c1F R_o0 R_c0) (St.mk s o) Q =
 (demand (binV BinOp.neq (s 7) (V.d (.int .i64 0))) (fun x1 =>
opsB C I R_o0 (St.mk (look [(1, s 1), (2, s 2), (15, x1)]) (looko ([2].map fun n => (n, o n)))) (fun st => (seqK (fun st => wpB C I R_c0 st Q) Q) .normal (St.trim st [1, 2, 25] (some [2]))))) := rfl
@[instance] theorem g_show_Expr_c1_u : UnfAt (wpB C I g_show_Expr.c1 (St.mk s o) Q) g_show_Expr_c1_sh := Unf.of _
theorem g_show_Expr_c2_sh : wpB C I (g_show_Expr.c2) (St.mk s o) Q =
 (demand (loadV o (some 2) (s 2)) (fun x1 =>
callK C I (St.mk (upd (upd s 26 x1) 27 (s 1)) o) (some 28) 200 [x1, (s 1)] (fun r2 or2 =>
Q .ret (St.mk (look [(4, r2), (5, (V.d (.int .i64 0)))]) (looko ([].map fun n => (n, or2 n))))))) := rfl
@[instance] theorem g_show_Expr_c2_u : UnfAt (wpB C I g_show_Expr.c2 (St.mk s o) Q) g_show_Expr_c2_sh := Unf.of _
theorem g_show_Expr_code_sh : wpB C I (g_show_Expr.codeF R_c1 R_c2) (St.mk s o) Q =
 (lstK (cellsV (s 0)) (fun c1 => c1.length = 2 ∧ ¬ I 2 ∧ Fresh (St.mk s o) 2 (some 2) ∧ V.refsL 2 c1 = false ∧
demand (loadV (looko ([2].map fun n => (n, (upd o 2 (some (Ob.box c1))) n))) (some 2) (V.ptr 2 0)) (fun x2 =>
callK C I (St.mk (upd (look [(1, s 1), (2, (V.ptr 2 0))]) 9 x2) (looko ([2].map fun n => (n, (upd o 2 (some (Ob.box c1))) n)))) (some 10) 174 [x2] (fun r3 or3 =>
demand (extV r3 0) (fun x4 =>
demand (extV r3 1) (fun x5 =>
wpB C I R_c1 (St.mk (look [(1, s 1), (2, (V.ptr 2 0)), (7, x5)]) (looko ([2].map fun n => (n, or3 n)))) (seqK (fun st => wpB C I R_c2 st Q) Q))))))) := rfl
@[instance] theorem g_show_Expr_code_u : UnfAt (wpB C I g_show_Expr.code (St.mk s o) Q) g_show_Expr_code_sh := Unf.of _
theorem g_ref08_Same_o1_sh : opsB C I (g_ref08_Same.o1) (St.mk s o) K =
 (demand (pickV (s 14) (V.d (.bool true)) (s 21)) (fun x1 =>
K (St.mk (upd s 22 x1) o))) := rfl
@[instance] theorem g_ref08_Same_o1_u : UnfAt (opsB C I g_ref08_Same.o1 (St.mk s o) K) g_ref08_Same_o1_sh := Unf.of _
theorem g_ref08_Same_o0_sh : opsB C I (g_ref08_Same.o0F R_o1) (St.mk s o) K =
 (guardK (s 14) false
 (demand (faddrV 1 (s 2)) (fun x1 =>
demand (loadV o none x1) (fun x2 =>
demand (lenV o x2) (fun x3 =>
demand (faddrV 1 (s 3)) (fun x4 =>
demand (loadV o none x4) (fun x5 =>
demand (lenV o x5) (fun x6 =>
demand (binV BinOp.neq x3 x6) (fun x7 =>
opsB C I R_o1 (St.mk (look [(2, s 2), (3, s 3), (14, (V.d (D.bool false))), (21, x7)]) (looko ([2, 3].map fun n => (n, o n)))) K))))))))
 (opsB C I R_o1 (St.mk (look [(2, s 2), (3, s 3), (14, (V.d (D.bool true))), (21, (V.tup []))]) (looko ([2, 3].map fun n => (n, o n)))) K)
 (opsB C I R_o1 (St.mk (look [(2, s 2), (3, s 3), (14, (V.tup [])), (21, (V.tup []))]) (looko ([2, 3].map fun n => (n, o n)))) K)) := rfl
@[instance] theorem g_ref08_Same_o0_u : UnfAt (opsB C I g_ref08_Same.o0 (St.mk s o) K) g_ref08_Same_o0_sh := Unf.of _
theorem g_ref08_Same_c0_sh : wpB C I (g_ref08_Same.c0) (St.mk s o) Q =
 (condK (s 22)
 (Q .ret (St.mk (look [(4, (V.d (.bool false)))]) (looko ([].map fun n => (n, o n)))))
 (Q .normal (St.mk s o))) := rfl
@[instance] theorem g_ref08_Same_c0_u : UnfAt (wpB C I g_ref08_Same.c0 (St.mk s o) Q) g_ref08_Same_c0_sh := Unf.of _
theorem g_ref08_Same_c1_sh : wpB C I (g_ref08_Same.c1) (St.mk s o) Q =
 (demand (binV BinOp.add (s 5) (V.d (.int .i64 1))) (fun x1 =>
Q .normal (St.mk (look [(2, s 2), (3, s 3), (5, x1)]) (looko ([2, 3].map fun n => (n, o n)))))) := rfl
@[instance] theorem g_ref08_Same_c1_u : UnfAt (wpB C I g_ref08_Same.c1 (St.mk s o) Q) g_ref08_Same_c1_sh := Unf.of _
theorem g_ref08_Same_c2_sh : wpB C I (g_ref08_Same.c2F R_c1) (St.mk s o) Q =
 ((s 30) = V.undef ∧ (demand (faddrV 0 (s 2)) (fun x1 => quietV o (x1 :: [(s 2)]) ∧
(s 31) = V.undef ∧ (demand (loadV o none x1) (fun x2 => quietV o (x2 :: [x1]) ∧
(s 32) = V.undef ∧ (quietV o ((s 5) :: [(s 5)]) ∧
(s 33) = V.undef ∧ (demand (iaddrV o 3 x2 (s 5)) (fun x4 => quietV o (x4 :: [x2, (s 5)]) ∧
(s 34) = V.undef ∧ (demand (loadV o (some 3) x4) (fun x5 => quietV o (x5 :: [x4]) ∧
(s 35) = V.undef ∧ (demand (faddrV 0 (s 3)) (fun x6 => quietV o (x6 :: [(s 3)]) ∧
(s 36) = V.undef ∧ (demand (loadV o none x6) (fun x7 => quietV o (x7 :: [x6]) ∧
(s 37) = V.undef ∧ (quietV o ((s 5) :: [(s 5)]) ∧
(s 38) = V.undef ∧ (demand (iaddrV o 3 x7 (s 5)) (fun x9 => quietV o (x9 :: [x7, (s 5)]) ∧
(s 39) = V.undef ∧ (demand (loadV o (some 3) x9) (fun x10 => quietV o (x10 :: [x9]) ∧
(s 40) = V.undef ∧ (demand (eqsV true [2, 2, 0] x5 x10) (fun x11 => quietV o (x11 :: [x5, x10]) ∧
condK x11
 (Q .ret (St.mk (look [(4, (V.d (.bool false)))]) (looko ([].map fun n => (n, o n)))))
 (wpB C I R_c1 (St.mk (look [(2, s 2), (3, s 3), (5, s 5)]) (looko ([2, 3].map fun n => (n, o n)))) Q)))))))))))))))))))))) := rfl
@[instance] theorem g_ref08_Same_c2_u : UnfAt (wpB C I g_ref08_Same.c2 (St.mk s o) Q) g_ref08_Same_c2_sh := Unf.of _
theorem g_ref08_Same_l0_sh (hL : R_l0 = g_ref08_Same.l0F R_c2)
 (h : demand (faddrV 0 (s 2)) (fun x1 =>
demand (loadV (looko ([2, 3].map fun n => (n, o n))) none x1) (fun x2 =>
demand (lenV (looko ([2, 3].map fun n => (n, o n))) x2) (fun x3 =>
demand (binV BinOp.lss (s 5) x3) (fun x4 =>
condK x4
 (wpB C I R_c2 (St.mk (look [(2, s 2), (3, s 3), (5, s 5), (27, x4)]) (looko ([2, 3].map fun n => (n, o n)))) (seqK (fun s => wpB C I R_l0 s Q) Q))
 (Q (.exit 0) (St.mk (look [(2, s 2), (3, s 3), (5, s 5), (27, x4)]) (looko ([2, 3].map fun n => (n, o n)))))))))) : wpB C I R_l0 (St.mk s o) Q := w_loopC hL h
theorem g_ref08_Same_c3_sh : wpB C I (g_ref08_Same.c3) (St.mk s o) Q =
 (demand (binV BinOp.add (s 6) (V.d (.int .i64 1))) (fun x1 =>
Q .normal (St.mk (look [(2, s 2), (3, s 3), (6, x1)]) (looko ([2, 3].map fun n => (n, o n)))))) := rfl
@[instance] theorem g_ref08_Same_c3_u : UnfAt (wpB C I g_ref08_Same.c3 (St.mk s o) Q) g_ref08_Same_c3_sh := Unf.of _
theorem g_ref08_Same_c4_sh : wpB C I (g_ref08_Same.c4F R_c3) (St.mk s o) Q =
 ((s 48) = V.undef ∧ (demand (faddrV 1 (s 2)) (fun x1 => quietV o (x1 :: [(s 2)]) ∧
(s 49) = V.undef ∧ (demand (loadV o none x1) (fun x2 => quietV o (x2 :: [x1]) ∧
(s 50) = V.undef ∧ (quietV o ((s 6) :: [(s 6)]) ∧
(s 51) = V.undef ∧ (demand (iaddrV o 6 x2 (s 6)) (fun x4 => quietV o (x4 :: [x2, (s 6)]) ∧
(s 52) = V.undef ∧ (demand (loadV o (some 6) x4) (fun x5 => quietV o (x5 :: [x4]) ∧
(s 53) = V.undef ∧ (demand (faddrV 1 (s 3)) (fun x6 => quietV o (x6 :: [(s 3)]) ∧
(s 54) = V.undef ∧ (demand (loadV o none x6) (fun x7 => quietV o (x7 :: [x6]) ∧
(s 55) = V.undef ∧ (quietV o ((s 6) :: [(s 6)]) ∧
(s 56) = V.undef ∧ (demand (iaddrV o 6 x7 (s 6)) (fun x9 => quietV o (x9 :: [x7, (s 6)]) ∧
(s 57) = V.undef ∧ (demand (loadV o (some 6) x9) (fun x10 => quietV o (x10 :: [x9]) ∧
(s 58) = V.undef ∧ (demand (eqsV true [2, 2, 0, 0, 0, 0] x5 x10) (fun x11 => quietV o (x11 :: [x5, x10]) ∧
condK x11
 (Q .ret (St.mk (look [(4, (V.d (.bool false)))]) (looko ([].map fun n => (n, o n)))))
 (wpB C I R_c3 (St.mk (look [(2, s 2), (3, s 3), (6, s 6)]) (looko ([2, 3].map fun n => (n, o n)))) Q)))))))))))))))))))))) := rfl
@[instance] theorem g_ref08_Same_c4_u : UnfAt (wpB C I g_ref08_Same.c4 (St.mk s o) Q) g_ref08_Same_c4_sh := Unf.of _
theorem g_ref08_Same_l1_sh (hL : R_l1 = g_ref08_Same.l1F R_c4)
 (h : demand (faddrV 1 (s 2)) (fun x1 =>
demand (loadV (looko ([2, 3].map fun n => (n, o n))) none x1) (fun x2 =>
demand (lenV (looko ([2, 3].map fun n => (n, o n))) x2) (fun x3 =>
demand (binV BinOp.lss (s 6) x3) (fun x4 =>
condK x4
 (wpB C I R_c4 (St.mk (look [(2, s 2), (3, s 3), (6, s 6), (45, x4)]) (looko ([2, 3].map fun n => (n, o n)))) (seqK (fun s => wpB C I R_l1 s Q) Q))
 (Q (.exit 2) (St.mk (look [(2, s 2), (3, s 3), (6, s 6), (45, x4)]) (looko ([2, 3].map fun n => (n, o n)))))))))) : wpB C I R_l1 (St.mk s o) Q := w_loopC hL h
theorem g_ref08_Same_c5_sh : wpB C I (g_ref08_Same.c5) (St.mk s o) Q =
 (Q .ret (St.mk (look [(4, (V.d (.bool true)))]) (looko ([].map fun n => (n, o n))))) := rfl
@[instance] theorem g_ref08_Same_c5_u : UnfAt (wpB C I g_ref08_Same.c5 (St.mk s o) Q) g_ref08_Same_c5_sh := Unf.of _
theorem g_ref08_Same_c6_sh : wpB C I (g_ref08_Same.c6F R_l1 R_c5) (St.mk s o) Q =
 (wpB C I R_l1 (St.mk (look [(2, s 2), (3, s 3), (6, (V.d (.int .i64 0)))]) (looko ([2, 3].map fun n => (n, o n)))) (blockK 2 [] (some []) (seqK (fun st => wpB C I R_c5 st Q) Q))) := rfl
@[instance] theorem g_ref08_Same_c6_u : UnfAt (wpB C I g_ref08_Same.c6 (St.mk s o) Q) g_ref08_Same_c6_sh := Unf.of _
theorem g_ref08_Same_c7_sh : wpB C I (g_ref08_Same.c7F R_l0 R_c6) (St.mk s o) Q =
 (wpB C I R_l0 (St.mk (look [(2, s 2), (3, s 3), (5, (V.d (.int .i64 0)))]) (looko ([2, 3].map fun n => (n, o n)))) (blockK 0 [2, 3] (some [2, 3]) (seqK (fun st => wpB C I R_c6 st Q) Q))) := rfl
@[instance] theorem g_ref08_Same_c7_u : UnfAt (wpB C I g_ref08_Same.c7 (St.mk s o) Q) g_ref08_Same_c7_sh := Unf.of _
theorem g_ref08_Same_code_sh : wpB C I (g_ref08_Same.codeF R_o0 R_c0 R_c7) (St.mk s o) Q =
 (lstK (cellsV (s 0)) (fun c1 => c1.length = 2 ∧ ¬ I 2 ∧ Fresh (St.mk s o) 2 (some 2) ∧ V.refsL 2 c1 = false ∧
lstK (cellsV (s 1)) (fun c2 => c2.length = 2 ∧ ¬ I 3 ∧ Fresh (St.mk (upd s 2 (V.ptr 2 0)) (upd o 2 (some (Ob.box c1)))) 3 (some 3) ∧ V.refsL 3 c2 = false ∧
demand (faddrV 0 (V.ptr 2 0)) (fun x3 =>
demand (loadV (looko ([2, 3].map fun n => (n, (upd (upd o 2 (some (Ob.box c1))) 3 (some (Ob.box c2))) n))) none x3) (fun x4 =>
demand (lenV (looko ([2, 3].map fun n => (n, (upd (upd o 2 (some (Ob.box c1))) 3 (some (Ob.box c2))) n))) x4) (fun x5 =>
demand (faddrV 0 (V.ptr 3 0)) (fun x6 =>
demand (loadV (looko ([2, 3].map fun n => (n, (upd (upd o 2 (some (Ob.box c1))) 3 (some (Ob.box c2))) n))) none x6) (fun x7 =>
demand (lenV (looko ([2, 3].map fun n => (n, (upd (upd o 2 (some (Ob.box c1))) 3 (some (Ob.box c2))) n))) x7) (fun x8 =>
demand (binV BinOp.neq x5 x8) (fun x9 =>
opsB C I R_o0 (St.mk (look [(2, (V.ptr 2 0)), (3, (V.ptr 3 0)), (14, x9)]) (looko ([2, 3].map fun n => (n, (upd (upd o 2 (some (Ob.box c1))) 3 (some (Ob.box c2))) n)))) (fun st => (seqK (fun st => wpB C I R_c0 st (seqK (fun st => wpB C I R_c7 st Q) Q)) (seqK (fun st => wpB C I R_c7 st Q) Q)) .normal (St.trim st [2, 3, 22] (some [2, 3]))))))))))))) := rfl
@[instance] theorem g_ref08_Same_code_u : UnfAt (wpB C I g_ref08_Same.code (St.mk s o) Q) g_ref08_Same_code_sh := Unf.of _
theorem g_law09_ref_c0_sh : wpB C I (g_law09_ref.c0) (St.mk s o) Q =
 (demand (faddrV 0 (s 3)) (fun x1 =>
demand (loadV o none x1) (fun x2 =>
demand (loadV o (some 3) (s 5)) (fun x3 =>
lstK (partsN 3 [x3]) (fun es4 =>
lstK (readD o (V.d (D.sl es4))) (fun ys5 => (∀ e ∈ ys5, e.length = 3) ∧ appK x2
 (ys5.length * 40 ≤ 140737488355328 ∧ ys5.length ≤ 140737488355328 ∧ ¬ I 19 ∧ Fresh (St.mk (upd (upd (upd (upd s 15 x1) 16 x2) 17 x3) 18 (V.d (D.sl es4))) o) 19 (some 19) ∧
demand (faddrV 0 (s 3)) (fun x10 =>
storeK x10 (cellsV (V.own 19)) 1 (upd o 19 (some (Ob.row 3 ys5))) (fun m11 ob12 =>
Q .normal (St.mk (look [(1, s 1), (2, s 2), (3, s 3), (9, s 9), (10, s 10), (11, s 11)]) (looko ([1, 2, 3, 19, 33].map fun n => (n, (upd (upd o 19 (some (Ob.row 3 ys5))) m11 (some ob12)) n)))))))
 (fun m6 => ¬ I m6 ∧ rowK (o m6) (fun z7 es8 => z7 = 3 ∧ (es8.length + ys5.length) * 40 ≤ 140737488355328 ∧ es8.length + ys5.length ≤ 140737488355328 ∧
demand (faddrV 0 ((fun t => scrubV m6 (s t)) 3)) (fun x13 =>
storeK x13 (cellsV (V.own m6)) 1 (upd (fun n => (o n).map (Ob.scrub m6)) m6 (some (Ob.row 3 (es8 ++ ys5)))) (fun m14 ob15 =>
Q .normal (St.mk (look [(1, ((fun t => scrubV m6 (s t)) 1)), (2, ((fun t => scrubV m6 (s t)) 2)), (3, ((fun t => scrubV m6 (s t)) 3)), (9, ((fun t => scrubV m6 (s t)) 9)), (10, ((fun t => scrubV m6 (s t)) 10)), (11, ((fun t => scrubV m6 (s t)) 11))]) (looko ([1, 2, 3, 19, 33].map fun n => (n, (upd (upd (fun n => (o n).map (Ob.scrub m6)) m6 (some (Ob.row 3 (es8 ++ ys5)))) m14 (some ob15)) n)))))))))))))) := rfl
@[instance] theorem g_law09_ref_c0_u : UnfAt (wpB C I g_law09_ref.c0 (St.mk s o) Q) g_law09_ref_c0_sh := Unf.of _
theorem g_law09_ref_c1_sh : wpB C I (g_law09_ref.c1) (St.mk s o) Q =
 (demand (binV BinOp.add (s 11) (V.d (.int .i64 1))) (fun x1 =>
Q .normal (St.mk (look [(1, s 1), (2, s 2), (3, s 3), (9, s 9), (10, s 10), (11, x1)]) (looko ([1, 2, 3, 19, 33].map fun n => (n, o n)))))) := rfl
@[instance] theorem g_law09_ref_c1_u : UnfAt (wpB C I g_law09_ref.c1 (St.mk s o) Q) g_law09_ref_c1_sh := Unf.of _
theorem g_law09_ref_l0_sh (hL : R_l0 = g_law09_ref.l0F R_c0 R_c1)
 (h : demand (binV BinOp.lss (s 11) (s 10)) (fun x1 =>
condK x1
 (demand (iaddrV (looko ([1, 2, 3, 19, 33].map fun n => (n, o n))) 3 (s 9) (s 11)) (fun x2 =>
demand (loadV (looko ([1, 2, 3, 19, 33].map fun n => (n, o n))) (some 3) x2) (fun x3 =>
(¬ I 5 ∧ Fresh (St.mk (upd (upd (look [(1, s 1), (2, s 2), (3, s 3), (9, s 9), (10, s 10), (11, s 11), (12, x1)]) 13 x2) 14 x3) (looko ([1, 2, 3, 19, 33].map fun n => (n, o n)))) 5 (some 5) ∧ V.refsL 5 [V.d (.str []), V.d (.str []), V.d (.int .i64 0)] = false ∧
storeK (V.ptr 5 0) (cellsV x3) 3 (upd (looko ([1, 2, 3, 19, 33].map fun n => (n, o n))) 5 (some (Ob.box [V.d (.str []), V.d (.str []), V.d (.int .i64 0)]))) (fun m4 ob5 =>
wpB C I R_c0 (St.mk (look [(1, s 1), (2, s 2), (3, s 3), (5, (V.ptr 5 0)), (9, s 9), (10, s 10), (11, s 11)]) (looko ([1, 2, 3, 5, 19, 33].map fun n => (n, (upd (upd (looko ([1, 2, 3, 19, 33].map fun n => (n, o n))) 5 (some (Ob.box [V.d (.str []), V.d (.str []), V.d (.int .i64 0)]))) m4 (some ob5)) n)))) (blockK 1 [1, 2, 3, 9, 10, 11] (some [1, 2, 3, 19, 33]) (seqK (fun st => wpB C I R_c1 st (seqK (fun s => wpB C I R_l0 s Q) Q)) (seqK (fun s => wpB C I R_l0 s Q) Q))))))))
 (Q (.exit 0) (St.mk (look [(1, s 1), (2, s 2), (3, s 3), (9, s 9), (10, s 10), (11, s 11), (12, x1)]) (looko ([1, 2, 3, 19, 33].map fun n => (n, o n))))))) : wpB C I R_l0 (St.mk s o) Q := w_loopC hL h
theorem g_law09_ref_c2_sh : wpB C I (g_law09_ref.c2F R_l0) (St.mk s o) Q =
 (wpB C I R_l0 (St.mk s o) (blockK 0 [1, 2, 3] (some [1, 2, 3, 19, 33]) Q)) := rfl
@[instance] theorem g_law09_ref_c2_u : UnfAt (wpB C I g_law09_ref.c2 (St.mk s o) Q) g_law09_ref_c2_sh := Unf.of _
theorem g_law09_ref_c3_sh : wpB C I (g_law09_ref.c3) (St.mk s o) Q =
 (demand (faddrV 1 (s 3)) (fun x1 =>
demand (loadV o none x1) (fun x2 =>
demand (loadV o (some 6) (s 7)) (fun x3 =>
lstK (partsN 6 [x3]) (fun es4 =>
lstK (readD o (V.d (D.sl es4))) (fun ys5 => (∀ e ∈ ys5, e.length = 6) ∧ appK x2
 (ys5.length * 64 ≤ 140737488355328 ∧ ys5.length ≤ 140737488355328 ∧ ¬ I 33 ∧ Fresh (St.mk (upd (upd (upd (upd s 29 x1) 30 x2) 31 x3) 32 (V.d (D.sl es4))) o) 33 (some 33) ∧
demand (faddrV 1 (s 3)) (fun x10 =>
storeK x10 (cellsV (V.own 33)) 1 (upd o 33 (some (Ob.row 6 ys5))) (fun m11 ob12 =>
Q .normal (St.mk (look [(2, s 2), (3, s 3), (23, s 23), (24, s 24), (25, s 25)]) (looko ([2, 3, 19, 33].map fun n => (n, (upd (upd o 33 (some (Ob.row 6 ys5))) m11 (some ob12)) n)))))))
 (fun m6 => ¬ I m6 ∧ rowK (o m6) (fun z7 es8 => z7 = 6 ∧ (es8.length + ys5.length) * 64 ≤ 140737488355328 ∧ es8.length + ys5.length ≤ 140737488355328 ∧
demand (faddrV 1 ((fun t => scrubV m6 (s t)) 3)) (fun x13 =>
storeK x13 (cellsV (V.own m6)) 1 (upd (fun n => (o n).map (Ob.scrub m6)) m6 (some (Ob.row 6 (es8 ++ ys5)))) (fun m14 ob15 =>
Q .normal (St.mk (look [(2, ((fun t => scrubV m6 (s t)) 2)), (3, ((fun t => scrubV m6 (s t)) 3)), (23, ((fun t => scrubV m6 (s t)) 23)), (24, ((fun t => scrubV m6 (s t)) 24)), (25, ((fun t => scrubV m6 (s t)) 25))]) (looko ([2, 3, 19, 33].map fun n => (n, (upd (upd (fun n => (o n).map (Ob.scrub m6)) m6 (some (Ob.row 6 (es8 ++ ys5)))) m14 (some ob15)) n)))))))))))))) := rfl
@[instance] theorem g_law09_ref_c3_u : UnfAt (wpB C I g_law09_ref.c3 (St.mk s o) Q) g_law09_ref_c3_sh := Unf.of _
theorem g_law09_ref_c4_sh : wpB C I (g_law09_ref.c4) (St.mk s o) Q =
 (demand (binV BinOp.add (s 25) (V.d (.int .i64 1))) (fun x1 =>
Q .normal (St.mk (look [(2, s 2), (3, s 3), (23, s 23), (24, s 24), (25, x1)]) (looko ([2, 3, 19, 33].map fun n => (n, o n)))))) := rfl
@[instance] theorem g_law09_ref_c4_u : UnfAt (wpB C I g_law09_ref.c4 (St.mk s o) Q) g_law09_ref_c4_sh := Unf.of _
theorem g_law09_ref_l1_sh (hL : R_l1 = g_law09_ref.l1F R_c3 R_c4)
 (h : demand (binV BinOp.lss (s 25) (s 24)) (fun x1 =>
condK x1
 (demand (iaddrV (looko ([2, 3, 19, 33].map fun n => (n, o n))) 6 (s 23) (s 25)) (fun x2 =>
demand (loadV (looko ([2, 3, 19, 33].map fun n => (n, o n))) (some 6) x2) (fun x3 =>
(¬ I 7 ∧ Fresh (St.mk (upd (upd (look [(2, s 2), (3, s 3), (23, s 23), (24, s 24), (25, s 25), (26, x1)]) 27 x2) 28 x3) (looko ([2, 3, 19, 33].map fun n => (n, o n)))) 7 (some 7) ∧ V.refsL 7 [V.d (.str []), V.d (.str []), V.d (.int .i64 0), V.d (.int .i64 0), V.d (.int .i64 0), V.d (.int .i64 0)] = false ∧
storeK (V.ptr 7 0) (cellsV x3) 6 (upd (looko ([2, 3, 19, 33].map fun n => (n, o n))) 7 (some (Ob.box [V.d (.str []), V.d (.str []), V.d (.int .i64 0), V.d (.int .i64 0), V.d (.int .i64 0), V.d (.int .i64 0)]))) (fun m4 ob5 =>
wpB C I R_c3 (St.mk (look [(2, s 2), (3, s 3), (7, (V.ptr 7 0)), (23, s 23), (24, s 24), (25, s 25)]) (looko ([2, 3, 7, 19, 33].map fun n => (n, (upd (upd (looko ([2, 3, 19, 33].map fun n => (n, o n))) 7 (some (Ob.box [V.d (.str []), V.d (.str []), V.d (.int .i64 0), V.d (.int .i64 0), V.d (.int .i64 0), V.d (.int .i64 0)]))) m4 (some ob5)) n)))) (blockK 3 [2, 3, 23, 24, 25] (some [2, 3, 19, 33]) (seqK (fun st => wpB C I R_c4 st (seqK (fun s => wpB C I R_l1 s Q) Q)) (seqK (fun s => wpB C I R_l1 s Q) Q))))))))
 (Q (.exit 2) (St.mk (look [(2, s 2), (3, s 3), (23, s 23), (24, s 24), (25, s 25), (26, x1)]) (looko ([2, 3, 19, 33].map fun n => (n, o n))))))) : wpB C I R_l1 (St.mk s o) Q := w_loopC hL h
theorem g_law09_ref_c5_sh : wpB C I (g_law09_ref.c5F R_l1) (St.mk s o) Q =
 (wpB C I R_l1 (St.mk s o) (blockK 2 [2, 3] (some [2, 3, 19, 33]) Q)) := rfl
@[instance] theorem g_law09_ref_c5_u : UnfAt (wpB C I g_law09_ref.c5 (St.mk s o) Q) g_law09_ref_c5_sh := Unf.of _
theorem g_law09_ref_c6_sh : wpB C I (g_law09_ref.c6) (St.mk s o) Q =
 (demand (loadV o (some 2) (s 3)) (fun x1 =>
storeK (s 2) (cellsV x1) 2 o (fun m2 ob3 =>
Q .ret (St.mk (look [(2, s 2)]) (looko ([2, 19, 33].map fun n => (n, (upd o m2 (some ob3)) n))))))) := rfl
@[instance] theorem g_law09_ref_c6_u : UnfAt (wpB C I g_law09_ref.c6 (St.mk s o) Q) g_law09_ref_c6_sh := Unf.of _
theorem g_law09_ref_c7_sh : wpB C I (g_law09_ref.c7F R_c5 R_c6) (St.mk s o) Q =
 (demand (faddrV 1 (s 1)) (fun x1 =>
demand (loadV o none x1) (fun x2 =>
demand (lenV o x2) (fun x3 =>
wpB C I R_c5 (St.mk (look [(2, s 2), (3, s 3), (23, x2), (24, x3), (25, (V.d (.int .i64 0)))]) (looko ([2, 3, 19, 33].map fun n => (n, o n)))) (seqK (fun st => wpB C I R_c6 st Q) Q))))) := rfl
@[instance] theorem g_law09_ref_c7_u : UnfAt (wpB C I g_law09_ref.c7 (St.mk s o) Q) g_law09_ref_c7_sh := Unf.of _
theorem g_law09_ref_code_sh : wpB C I (g_law09_ref.codeF R_c2 R_c7) (St.mk s o) Q =
 (lstK (cellsV (s 0)) (fun c1 => c1.length = 2 ∧ ¬ I 1 ∧ Fresh (St.mk s o) 1 (some 1) ∧ V.refsL 1 c1 = false ∧
(¬ I 2 ∧ Fresh (St.mk (upd s 1 (V.ptr 1 0)) (upd o 1 (some (Ob.box c1)))) 2 (some 2) ∧ V.refsL 2 [V.cap0, V.cap0] = false ∧
(¬ I 3 ∧ Fresh (St.mk (look [(1, (V.ptr 1 0)), (2, (V.ptr 2 0))]) (looko ([1, 2, 19, 33].map fun n => (n, (upd (upd o 1 (some (Ob.box c1))) 2 (some (Ob.box [V.cap0, V.cap0]))) n)))) 3 (some 3) ∧ V.refsL 3 [V.cap0, V.cap0] = false ∧
demand (faddrV 0 (V.ptr 1 0)) (fun x2 =>
demand (loadV (looko ([1, 2, 3, 19, 33].map fun n => (n, (upd (looko ([1, 2, 19, 33].map fun n => (n, (upd (upd o 1 (some (Ob.box c1))) 2 (some (Ob.box [V.cap0, V.cap0]))) n))) 3 (some (Ob.box [V.cap0, V.cap0]))) n))) none x2) (fun x3 =>
demand (lenV (looko ([1, 2, 3, 19, 33].map fun n => (n, (upd (looko ([1, 2, 19, 33].map fun n => (n, (upd (upd o 1 (some (Ob.box c1))) 2 (some (Ob.box [V.cap0, V.cap0]))) n))) 3 (some (Ob.box [V.cap0, V.cap0]))) n))) x3) (fun x4 =>
wpB C I R_c2 (St.mk (look [(1, (V.ptr 1 0)), (2, (V.ptr 2 0)), (3, (V.ptr 3 0)), (9, x3), (10, x4), (11, (V.d (.int .i64 0)))]) (looko ([1, 2, 3, 19, 33].map fun n => (n, (upd (looko ([1, 2, 19, 33].map fun n => (n, (upd (upd o 1 (some (Ob.box c1))) 2 (some (Ob.box [V.cap0, V.cap0]))) n))) 3 (some (Ob.box [V.cap0, V.cap0]))) n)))) (seqK (fun st => wpB C I R_c7 st Q) Q)))))))) := rfl
@[instance] theorem g_law09_ref_code_u : UnfAt (wpB C I g_law09_ref.code (St.mk s o) Q) g_law09_ref_code_sh := Unf.of _
theorem g_lex_All_o1_sh : opsB C I (g_lex_All.o1) (St.mk s o) K =
 (demand (pickV (s 18) (V.d (.bool true)) (s 22)) (fun x1 =>
K (St.mk (upd s 23 x1) o))) := rfl
@[instance] theorem g_lex_All_o1_u : UnfAt (opsB C I g_lex_All.o1 (St.mk s o) K) g_lex_All_o1_sh := Unf.of _
theorem g_lex_All_o0_sh : opsB C I (g_lex_All.o0F R_o1) (St.mk s o) K =
 (guardK (s 18) false
 (demand (idxV (s 0) (s 6)) (fun x1 =>
demand (binV BinOp.eql x1 (V.d (.int .u8 10))) (fun x2 =>
opsB C I R_o1 (St.mk (look [(0, s 0), (5, s 5), (6, s 6), (18, (V.d (D.bool false))), (22, x2)]) (looko ([55].map fun n => (n, o n)))) K)))
 (opsB C I R_o1 (St.mk (look [(0, s 0), (5, s 5), (6, s 6), (18, (V.d (D.bool true))), (22, (V.tup []))]) (looko ([55].map fun n => (n, o n)))) K)
 (opsB C I R_o1 (St.mk (look [(0, s 0), (5, s 5), (6, s 6), (18, (V.tup [])), (22, (V.tup []))]) (looko ([55].map fun n => (n, o n)))) K)) := rfl
@[instance] theorem g_lex_All_o0_u : UnfAt (opsB C I g_lex_All.o0 (St.mk s o) K) g_lex_All_o0_sh := Unf.of _
theorem g_lex_All_c0_sh : wpB C I (g_lex_All.c0) (St.mk s o) Q =
 (condK (s 23)
 (demand (binV BinOp.add (s 6) (V.d (.int .i64 1))) (fun x1 =>
Q (.exit 1000000) (St.mk (look [(0, s 0), (5, s 5), (6, x1)]) (looko ([55].map fun n => (n, o n))))))
 (Q .normal (St.mk s o))) := rfl
@[instance] theorem g_lex_All_c0_u : UnfAt (wpB C I g_lex_All.c0 (St.mk s o) Q) g_lex_All_c0_sh := Unf.of _
theorem g_lex_All_c1_sh : wpB C I (g_lex_All.c1) (St.mk s o) Q =
 (demand (binV BinOp.add (s 6) (s 8)) (fun x1 =>
Q (.exit 1000000) (St.mk (look [(0, s 0), (5, s 5), (6, x1)]) (looko ([55].map fun n => (n, o n)))))) := rfl
@[instance] theorem g_lex_All_c1_u : UnfAt (wpB C I g_lex_All.c1 (St.mk s o) Q) g_lex_All_c1_sh := Unf.of _
theorem g_lex_All_c2_sh : wpB C I (g_lex_All.c2F R_c1) (St.mk s o) Q =
 (demand (binV BinOp.add (s 6) (s 8)) (fun x1 =>
demand (slcSV (s 0) (some (s 6)) (some x1)) (fun x2 =>
demand ((buildN [V.d (.int .i64 0), V.d (.str []), V.d (.int .i64 0)] [(0, 1, (s 7)), (1, 1, x2), (2, 1, (s 6))]).map V.agg) (fun x3 =>
lstK (partsN 3 [x3]) (fun es4 =>
lstK (readD o (V.d (D.sl es4))) (fun ys5 => (∀ e ∈ ys5, e.length = 3) ∧ appK (s 5)
 (ys5.length * 32 ≤ 140737488355328 ∧ ys5.length ≤ 140737488355328 ∧ ¬ I 55 ∧ Fresh (St.mk (upd (upd (upd (upd (upd (upd (upd (upd (upd (upd (upd s 44 (s 5)) 45 (s 7)) 46 (s 0)) 47 (s 6)) 48 (s 6)) 49 (s 8)) 50 x1) 51 x2) 52 (s 6)) 53 x3) 54 (V.d (D.sl es4))) o) 55 (some 55) ∧
wpB C I R_c1 (St.mk (look [(0, s 0), (5, (V.own 55)), (6, s 6), (8, s 8)]) (looko ([55].map fun n => (n, (upd o 55 (some (Ob.row 3 ys5))) n)))) Q)
 (fun m6 => ¬ I m6 ∧ rowK (o m6) (fun z7 es8 => z7 = 3 ∧ (es8.length + ys5.length) * 32 ≤ 140737488355328 ∧ es8.length + ys5.length ≤ 140737488355328 ∧
wpB C I R_c1 (St.mk (look [(0, ((fun t => scrubV m6 (s t)) 0)), (5, (V.own m6)), (6, ((fun t => scrubV m6 (s t)) 6)), (8, ((fun t => scrubV m6 (s t)) 8))]) (looko ([55].map fun n => (n, (upd (fun n => (o n).map (Ob.scrub m6)) m6 (some (Ob.row 3 (es8 ++ ys5)))) n)))) Q)))))))) := rfl
@[instance] theorem g_lex_All_c2_u : UnfAt (wpB C I g_lex_All.c2 (St.mk s o) Q) g_lex_All_c2_sh := Unf.of _
theorem g_lex_All_c3_sh : wpB C I (g_lex_All.c3F R_c2) (St.mk s o) Q =
 (demand (binV BinOp.eql (s 7) (V.d (.int .i64 0))) (fun x1 =>
condK x1
 (Q .ret (St.mk (look [(2, (V.cap0)), (3, s 6), (4, (V.d (.int .i64 2)))]) (looko ([55].map fun n => (n, o n)))))
 (wpB C I R_c2 (St.mk (look [(0, s 0), (5, s 5), (6, s 6), (7, s 7), (8, s 8), (42, x1)]) (looko ([55].map fun n => (n, o n)))) Q))) := rfl
@[instance] theorem g_lex_All_c3_u : UnfAt (wpB C I g_lex_All.c3 (St.mk s o) Q) g_lex_All_c3_sh := Unf.of _
theorem g_lex_All_c4_sh : wpB C I (g_lex_All.c4F R_c3) (St.mk s o) Q =
 (callK C I (St.mk (upd (upd s 36 (s 0)) 37 (s 6)) o) (some 38) 104 [(s 0), (s 6)] (fun r1 or1 =>
demand (extV r1 0) (fun x2 =>
demand (extV r1 1) (fun x3 =>
wpB C I R_c3 (St.mk (look [(0, s 0), (5, s 5), (6, s 6), (7, x2), (8, x3)]) (looko ([55].map fun n => (n, or1 n)))) Q)))) := rfl
@[instance] theorem g_lex_All_c4_u : UnfAt (wpB C I g_lex_All.c4 (St.mk s o) Q) g_lex_All_c4_sh := Unf.of _
theorem g_lex_All_c5_sh : wpB C I (g_lex_All.c5F R_c4) (St.mk s o) Q =
 (demand (idxV (s 0) (s 6)) (fun x1 =>
demand (binV BinOp.eql x1 (V.d (.int .u8 35))) (fun x2 =>
condK x2
 (callK C I (St.mk (upd (upd (upd (look [(0, s 0), (5, s 5), (6, s 6), (29, x2)]) 30 (s 6)) 31 (s 0)) 32 (s 6)) (looko ([55].map fun n => (n, o n)))) (some 33) 102 [(s 0), (s 6), (V.fn 103 [])] (fun r3 or3 =>
demand (binV BinOp.add (s 6) r3) (fun x4 =>
Q (.exit 1000000) (St.mk (look [(0, s 0), (5, s 5), (6, x4)]) (looko ([55].map fun n => (n, or3 n)))))))
 (wpB C I R_c4 (St.mk (look [(0, s 0), (5, s 5), (6, s 6), (29, x2)]) (looko ([55].map fun n => (n, o n)))) Q)))) := rfl
@[instance] theorem g_lex_All_c5_u : UnfAt (wpB C I g_lex_All.c5 (St.mk s o) Q) g_lex_All_c5_sh := Unf.of _
theorem g_lex_All_c6_sh : wpB C I (g_lex_All.c6F R_o0 R_c0 R_c5) (St.mk s o) Q =
 (demand (idxV (s 0) (s 6)) (fun x1 =>
demand (binV BinOp.eql x1 (V.d (.int .u8 32))) (fun x2 =>
opsB C I R_o0 (St.mk (look [(0, s 0), (5, s 5), (6, s 6), (18, x2)]) (looko ([55].map fun n => (n, o n)))) (fun st => (seqK (fun st => wpB C I R_c0 st (seqK (fun st => wpB C I R_c5 st Q) Q)) (seqK (fun st => wpB C I R_c5 st Q) Q)) .normal (St.trim st [0, 5, 6, 23] (some [55])))))) := rfl
@[instance] theorem g_lex_All_c6_u : UnfAt (wpB C I g_lex_All.c6 (St.mk s o) Q) g_lex_All_c6_sh := Unf.of _
theorem g_lex_All_c7_sh : wpB C I (g_lex_All.c7F R_c6) (St.mk s o) Q =
 (demand (lenSV (s 0)) (fun x1 =>
demand (binV BinOp.geq (s 6) x1) (fun x2 =>
condK x2
 (Q .ret (St.mk (look [(2, s 5), (3, (V.d (.int .i64 0))), (4, (V.d (.int .i64 0)))]) (looko ([55].map fun n => (n, o n)))))
 (wpB C I R_c6 (St.mk (look [(0, s 0), (5, s 5), (6, s 6), (12, x2)]) (looko ([55].map fun n => (n, o n)))) Q)))) := rfl
@[instance] theorem g_lex_All_c7_u : UnfAt (wpB C I g_lex_All.c7 (St.mk s o) Q) g_lex_All_c7_sh := Unf.of _
theorem g_lex_All_code_sh : wpB C I (g_lex_All.codeF R_c7) (St.mk s o) Q =
 (wpB C I R_c7 (St.mk (look [(0, s 0), (5, (V.cap0)), (6, (V.d (.int .i64 0)))]) (looko ([55].map fun n => (n, (looko ([].map fun n => (n, o n))) n)))) (jumpK 0 (fun s => wpA C I (.scope 0 [0, 5, 6] (some [55]) (.seq .skip R_c7) (.seq .skip R_c7)) (s.trim [0, 5, 6] (some [55])) Q) Q)) := rfl
@[instance] theorem g_lex_All_code_u : UnfAt (wpB C I g_lex_All.code (St.mk s o) Q) g_lex_All_code_sh := Unf.of _
theorem g_tree_parser_rule_t4_sh : treeB C I g_tree_parser_rule.a0 (.one 17 .done) (St.mk s o) K =
 ((([] : List Nat) = [] ∧ (demand (pickV (s 21) (s 25) (V.d (.bool false))) (fun x1 =>
K (St.mk (upd s 26 x1) o))))) := rfl
@[instance] theorem g_tree_parser_rule_t4_u : UnfAt (treeB C I g_tree_parser_rule.a0 g_tree_parser_rule.t4 (St.mk s o) K) g_tree_parser_rule_t4_sh := Unf.of _
theorem g_tree_parser_rule_t5_sh : treeB C I g_tree_parser_rule.a0 (.one 16 R_t4) (St.mk s o) K =
 ((([] : List Nat) = [] ∧ guardK (s 21) true
 (callE C I (St.mk s o) (some 25) 155 [(s 22), (s 24)] (fun r1 or1 =>
treeB C I g_tree_parser_rule.a0 R_t4 (St.mk (upd s 25 r1) or1) K))
 (treeB C I g_tree_parser_rule.a0 R_t4 (St.mk (upd s 25 (V.tup [])) o) K)
 (treeB C I g_tree_parser_rule.a0 R_t4 (St.mk (upd s 25 (V.tup [])) o) K))) := rfl
@[instance] theorem g_tree_parser_rule_t5_u : UnfAt (treeB C I g_tree_parser_rule.a0 g_tree_parser_rule.t5 (St.mk s o) K) g_tree_parser_rule_t5_sh := Unf.of _
theorem g_tree_parser_rule_t6_sh : treeB C I g_tree_parser_rule.a0 (.one 15 R_t5) (St.mk s o) K =
 ((([] : List Nat) = [] ∧ guardK (s 21) true
 (demand (loadV o none (s 23)) (fun x1 =>
treeB C I g_tree_parser_rule.a0 R_t5 (St.mk (upd s 24 x1) o) K))
 (treeB C I g_tree_parser_rule.a0 R_t5 (St.mk (upd s 24 (V.tup [])) o) K)
 (treeB C I g_tree_parser_rule.a0 R_t5 (St.mk (upd s 24 (V.tup [])) o) K))) := rfl
@[instance] theorem g_tree_parser_rule_t6_u : UnfAt (treeB C I g_tree_parser_rule.a0 g_tree_parser_rule.t6 (St.mk s o) K) g_tree_parser_rule_t6_sh := Unf.of _
theorem g_tree_parser_rule_t7_sh : treeB C I g_tree_parser_rule.a0 (.one 14 R_t6) (St.mk s o) K =
 ((([] : List Nat) = [] ∧ guardK (s 21) true
 (demand (faddrV 1 (s 2)) (fun x1 =>
treeB C I g_tree_parser_rule.a0 R_t6 (St.mk (upd s 23 x1) o) K))
 (treeB C I g_tree_parser_rule.a0 R_t6 (St.mk (upd s 23 (V.tup [])) o) K)
 (treeB C I g_tree_parser_rule.a0 R_t6 (St.mk (upd s 23 (V.tup [])) o) K))) := rfl
@[instance] theorem g_tree_parser_rule_t7_u : UnfAt (treeB C I g_tree_parser_rule.a0 g_tree_parser_rule.t7 (St.mk s o) K) g_tree_parser_rule_t7_sh := Unf.of _
theorem g_tree_parser_rule_t8_sh : treeB C I g_tree_parser_rule.a0 (.one 13 R_t5) (St.mk s o) K =
 ((([] : List Nat) = [] ∧ guardK (s 21) true
 (callE C I (St.mk s o) (some 22) 157 [] (fun r1 or1 =>
treeB C I g_tree_parser_rule.a0 R_t5 (St.mk (upd s 22 r1) or1) K))
 (treeB C I g_tree_parser_rule.a0 R_t5 (St.mk (upd s 22 (V.tup [])) o) K)
 (treeB C I g_tree_parser_rule.a0 R_t5 (St.mk (upd s 22 (V.tup [])) o) K))) := rfl
@[instance] theorem g_tree_parser_rule_t8_u : UnfAt (treeB C I g_tree_parser_rule.a0 g_tree_parser_rule.t8 (St.mk s o) K) g_tree_parser_rule_t8_sh := Unf.of _
theorem g_tree_parser_rule_t9_sh : treeB C I g_tree_parser_rule.a0 (.one 15 R_t8) (St.mk s o) K =
 ((([] : List Nat) = [] ∧ guardK (s 21) true
 (demand (loadV o none (s 23)) (fun x1 =>
treeB C I g_tree_parser_rule.a0 R_t8 (St.mk (upd s 24 x1) o) K))
 (treeB C I g_tree_parser_rule.a0 R_t8 (St.mk (upd s 24 (V.tup [])) o) K)
 (treeB C I g_tree_parser_rule.a0 R_t8 (St.mk (upd s 24 (V.tup [])) o) K))) := rfl
@[instance] theorem g_tree_parser_rule_t9_u : UnfAt (treeB C I g_tree_parser_rule.a0 g_tree_parser_rule.t9 (St.mk s o) K) g_tree_parser_rule_t9_sh := Unf.of _
theorem g_tree_parser_rule_t10_sh : treeB C I g_tree_parser_rule.a0 (.two 13 R_t6 R_t9) (St.mk s o) K =
 ((([] : List Nat) = [] ∧ guardK (s 21) true
 (callE C I (St.mk s o) (some 22) 157 [] (fun r1 or1 =>
treeB C I g_tree_parser_rule.a0 R_t6 (St.mk (upd s 22 r1) or1) K))
 (treeB C I g_tree_parser_rule.a0 R_t6 (St.mk (upd s 22 (V.tup [])) o) K)
 (treeB C I g_tree_parser_rule.a0 R_t6 (St.mk (upd s 22 (V.tup [])) o) K)) ∧ treeB C I g_tree_parser_rule.a0 R_t9 (St.mk s o) K) := rfl
@[instance] theorem g_tree_parser_rule_t10_u : UnfAt (treeB C I g_tree_parser_rule.a0 g_tree_parser_rule.t10 (St.mk s o) K) g_tree_parser_rule_t10_sh := Unf.of _
theorem g_tree_parser_rule_t11_sh : treeB C I g_tree_parser_rule.a0 (.one 14 R_t10) (St.mk s o) K =
 ((([] : List Nat) = [] ∧ guardK (s 21) true
 (demand (faddrV 1 (s 2)) (fun x1 =>
treeB C I g_tree_parser_rule.a0 R_t10 (St.mk (upd s 23 x1) o) K))
 (treeB C I g_tree_parser_rule.a0 R_t10 (St.mk (upd s 23 (V.tup [])) o) K)
 (treeB C I g_tree_parser_rule.a0 R_t10 (St.mk (upd s 23 (V.tup [])) o) K))) := rfl
@[instance] theorem g_tree_parser_rule_t11_u : UnfAt (treeB C I g_tree_parser_rule.a0 g_tree_parser_rule.t11 (St.mk s o) K) g_tree_parser_rule_t11_sh := Unf.of _
theorem g_tree_parser_rule_t12_sh : treeB C I g_tree_parser_rule.a0 (.two 13 R_t7 R_t11) (St.mk s o) K =
 ((([] : List Nat) = [] ∧ guardK (s 21) true
 (callE C I (St.mk s o) (some 22) 157 [] (fun r1 or1 =>
treeB C I g_tree_parser_rule.a0 R_t7 (St.mk (upd s 22 r1) or1) K))
 (treeB C I g_tree_parser_rule.a0 R_t7 (St.mk (upd s 22 (V.tup [])) o) K)
 (treeB C I g_tree_parser_rule.a0 R_t7 (St.mk (upd s 22 (V.tup [])) o) K)) ∧ treeB C I g_tree_parser_rule.a0 R_t11 (St.mk s o) K) := rfl
@[instance] theorem g_tree_parser_rule_t12_u : UnfAt (treeB C I g_tree_parser_rule.a0 g_tree_parser_rule.t12 (St.mk s o) K) g_tree_parser_rule_t12_sh := Unf.of _
theorem g_tree_parser_rule_t13_sh : treeB C I g_tree_parser_rule.a0 (.one 12 R_t12) (St.mk s o) K =
 ((([] : List Nat) = [] ∧ (treeB C I g_tree_parser_rule.a0 R_t12 (St.mk (upd s 21 (s 20)) o) K))) := rfl
@[instance] theorem g_tree_parser_rule_t13_u : UnfAt (treeB C I g_tree_parser_rule.a0 g_tree_parser_rule.t13 (St.mk s o) K) g_tree_parser_rule_t13_sh := Unf.of _
theorem g_tree_parser_rule_t14_sh : treeB C I g_tree_parser_rule.a0 (.one 11 R_t13) (St.mk s o) K =
 ((([] : List Nat) = [] ∧ (demand (pickV (s 16) (s 19) (V.d (.bool false))) (fun x1 =>
treeB C I g_tree_parser_rule.a0 R_t13 (St.mk (upd s 20 x1) o) K)))) := rfl
@[instance] theorem g_tree_parser_rule_t14_u : UnfAt (treeB C I g_tree_parser_rule.a0 g_tree_parser_rule.t14 (St.mk s o) K) g_tree_parser_rule_t14_sh := Unf.of _
theorem g_tree_parser_rule_t15_sh : treeB C I g_tree_parser_rule.a0 (.one 10 R_t14) (St.mk s o) K =
 ((([] : List Nat) = [] ∧ guardK (s 16) true
 (demand (binV BinOp.eql (s 18) (V.d (.int .i64 1))) (fun x1 =>
treeB C I g_tree_parser_rule.a0 R_t14 (St.mk (upd s 19 x1) o) K))
 (treeB C I g_tree_parser_rule.a0 R_t14 (St.mk (upd s 19 (V.tup [])) o) K)
 (treeB C I g_tree_parser_rule.a0 R_t14 (St.mk (upd s 19 (V.tup [])) o) K))) := rfl
@[instance] theorem g_tree_parser_rule_t15_u : UnfAt (treeB C I g_tree_parser_rule.a0 g_tree_parser_rule.t15 (St.mk s o) K) g_tree_parser_rule_t15_sh := Unf.of _
theorem g_tree_parser_rule_t16_sh : treeB C I g_tree_parser_rule.a0 (.one 9 R_t15) (St.mk s o) K =
 ((([] : List Nat) = [] ∧ guardK (s 16) true
 (demand (loadV o none (s 17)) (fun x1 =>
treeB C I g_tree_parser_rule.a0 R_t15 (St.mk (upd s 18 x1) o) K))
 (treeB C I g_tree_parser_rule.a0 R_t15 (St.mk (upd s 18 (V.tup [])) o) K)
 (treeB C I g_tree_parser_rule.a0 R_t15 (St.mk (upd s 18 (V.tup [])) o) K))) := rfl
@[instance] theorem g_tree_parser_rule_t16_u : UnfAt (treeB C I g_tree_parser_rule.a0 g_tree_parser_rule.t16 (St.mk s o) K) g_tree_parser_rule_t16_sh := Unf.of _
theorem g_tree_parser_rule_t17_sh : treeB C I g_tree_parser_rule.a0 (.one 8 R_t16) (St.mk s o) K =
 ((([] : List Nat) = [] ∧ guardK (s 16) true
 (demand (faddrV 0 (s 2)) (fun x1 =>
treeB C I g_tree_parser_rule.a0 R_t16 (St.mk (upd s 17 x1) o) K))
 (treeB C I g_tree_parser_rule.a0 R_t16 (St.mk (upd s 17 (V.tup [])) o) K)
 (treeB C I g_tree_parser_rule.a0 R_t16 (St.mk (upd s 17 (V.tup [])) o) K))) := rfl
@[instance] theorem g_tree_parser_rule_t17_u : UnfAt (treeB C I g_tree_parser_rule.a0 g_tree_parser_rule.t17 (St.mk s o) K) g_tree_parser_rule_t17_sh := Unf.of _
theorem g_tree_parser_rule_t18_sh : treeB C I g_tree_parser_rule.a0 (.one 7 R_t17) (St.mk s o) K =
 ((([] : List Nat) = [] ∧ (treeB C I g_tree_parser_rule.a0 R_t17 (St.mk (upd s 16 (s 15)) o) K))) := rfl
@[instance] theorem g_tree_parser_rule_t18_u : UnfAt (treeB C I g_tree_parser_rule.a0 g_tree_parser_rule.t18 (St.mk s o) K) g_tree_parser_rule_t18_sh := Unf.of _
theorem g_tree_parser_rule_t19_sh : treeB C I g_tree_parser_rule.a0 (.one 6 R_t18) (St.mk s o) K =
 ((([] : List Nat) = [] ∧ (demand (binV BinOp.geq (s 14) (V.d (.int .i64 60))) (fun x1 =>
treeB C I g_tree_parser_rule.a0 R_t18 (St.mk (upd s 15 x1) o) K)))) := rfl
@[instance] theorem g_tree_parser_rule_t19_u : UnfAt (treeB C I g_tree_parser_rule.a0 g_tree_parser_rule.t19 (St.mk s o) K) g_tree_parser_rule_t19_sh := Unf.of _
theorem g_tree_parser_rule_t20_sh : treeB C I g_tree_parser_rule.a0 (.one 5 R_t19) (St.mk s o) K =
 ((([] : List Nat) = [] ∧ (demand (lenV o (s 13)) (fun x1 =>
treeB C I g_tree_parser_rule.a0 R_t19 (St.mk (upd s 14 x1) o) K)))) := rfl
@[instance] theorem g_tree_parser_rule_t20_u : UnfAt (treeB C I g_tree_parser_rule.a0 g_tree_parser_rule.t20 (St.mk s o) K) g_tree_parser_rule_t20_sh := Unf.of _
theorem g_tree_parser_rule_t21_sh : treeB C I g_tree_parser_rule.a0 (.one 4 R_t20) (St.mk s o) K =
 ((([] : List Nat) = [] ∧ (demand (loadV o none (s 12)) (fun x1 =>
treeB C I g_tree_parser_rule.a0 R_t20 (St.mk (upd s 13 x1) o) K)))) := rfl
@[instance] theorem g_tree_parser_rule_t21_u : UnfAt (treeB C I g_tree_parser_rule.a0 g_tree_parser_rule.t21 (St.mk s o) K) g_tree_parser_rule_t21_sh := Unf.of _
theorem g_tree_parser_rule_i3_sh : drawB C I g_tree_parser_rule.a0 (3 :: []) R_t21 (St.mk s o) K =
 ((s 12) = V.undef ∧ (demand (faddrV 0 (s 11)) (fun x1 => quietV o (x1 :: [(s 11)]) ∧
treeB C I g_tree_parser_rule.a0 R_t21 (St.mk (upd s 12 x1) o) K))) := rfl
@[instance] theorem g_tree_parser_rule_i3_u : UnfAt (drawB C I g_tree_parser_rule.a0 g_tree_parser_rule.i3 g_tree_parser_rule.t21 (St.mk s o) K) g_tree_parser_rule_i3_sh := Unf.of _
theorem g_tree_parser_rule_i2_sh : drawB C I g_tree_parser_rule.a0 (2 :: R_i3) R_t21 (St.mk s o) K =
 ((s 11) = V.undef ∧ (demand (faddrV 3 (s 10)) (fun x1 => quietV o (x1 :: [(s 10)]) ∧
drawB C I g_tree_parser_rule.a0 R_i3 R_t21 (St.mk (upd s 11 x1) o) K))) := rfl
@[instance] theorem g_tree_parser_rule_i2_u : UnfAt (drawB C I g_tree_parser_rule.a0 g_tree_parser_rule.i2 g_tree_parser_rule.t21 (St.mk s o) K) g_tree_parser_rule_i2_sh := Unf.of _
theorem g_tree_parser_rule_i1_sh : drawB C I g_tree_parser_rule.a0 (1 :: R_i2) R_t21 (St.mk s o) K =
 ((s 10) = V.undef ∧ (demand (nilcV (s 9)) (fun x1 => quietV o (x1 :: [(s 9)]) ∧
drawB C I g_tree_parser_rule.a0 R_i2 R_t21 (St.mk (upd s 10 x1) o) K))) := rfl
@[instance] theorem g_tree_parser_rule_i1_u : UnfAt (drawB C I g_tree_parser_rule.a0 g_tree_parser_rule.i1 g_tree_parser_rule.t21 (St.mk s o) K) g_tree_parser_rule_i1_sh := Unf.of _
theorem g_tree_parser_rule_c0_sh : wpB C I (g_tree_parser_rule.c0) (St.mk s o) Q =
 (condK (s 26)
 (callK C I (St.mk (upd s 27 (s 0)) o) (some 28) 218 [(s 0), (V.d (.int .i64 9))] (fun r1 or1 =>
Q .ret (St.mk (look []) or1)))
 (Q .normal (St.mk s o))) := rfl
@[instance] theorem g_tree_parser_rule_c0_u : UnfAt (wpB C I g_tree_parser_rule.c0 (St.mk s o) Q) g_tree_parser_rule_c0_sh := Unf.of _
theorem g_tree_parser_rule_o23_sh : opsB C I (g_tree_parser_rule.o23) (St.mk s o) K =
 (demand (pickV (s 44) (V.d (.bool true)) (s 48)) (fun x1 =>
K (St.mk (upd s 49 x1) o))) := rfl
@[instance] theorem g_tree_parser_rule_o23_u : UnfAt (opsB C I g_tree_parser_rule.o23 (St.mk s o) K) g_tree_parser_rule_o23_sh := Unf.of _
theorem g_tree_parser_rule_o22_sh : opsB C I (g_tree_parser_rule.o22F R_o23) (St.mk s o) K =
 (guardK (s 44) false
 (demand (faddrV 1 (s 5)) (fun x1 =>
demand (loadV o none x1) (fun x2 =>
callK C I (St.mk (upd (upd (upd (upd (upd s 44 (V.d (D.bool false))) 45 x1) 44 (V.d (D.bool false))) 46 x2) 44 (V.d (D.bool false))) o) (some 47) 158 [x2] (fun r3 or3 =>
demand (unV UnOp.not r3) (fun x4 =>
opsB C I R_o23 (St.mk (look [(0, s 0), (3, s 3), (5, s 5), (44, (V.d (D.bool false))), (48, x4)]) or3) K)))))
 (opsB C I R_o23 (St.mk (look [(0, s 0), (3, s 3), (5, s 5), (44, (V.d (D.bool true))), (48, (V.tup []))]) o) K)
 (opsB C I R_o23 (St.mk (look [(0, s 0), (3, s 3), (5, s 5), (44, (V.tup [])), (48, (V.tup []))]) o) K)) := rfl
@[instance] theorem g_tree_parser_rule_o22_u : UnfAt (opsB C I g_tree_parser_rule.o22 (St.mk s o) K) g_tree_parser_rule_o22_sh := Unf.of _
theorem g_tree_parser_rule_c1_sh : wpB C I (g_tree_parser_rule.c1) (St.mk s o) Q =
 (condK (s 49)
 (callK C I (St.mk (upd s 50 (s 0)) o) (some 51) 218 [(s 0), (V.d (.int .i64 2))] (fun r1 or1 =>
Q .ret (St.mk (look []) or1)))
 (Q .normal (St.mk s o))) := rfl
@[instance] theorem g_tree_parser_rule_c1_u : UnfAt (wpB C I g_tree_parser_rule.c1 (St.mk s o) Q) g_tree_parser_rule_c1_sh := Unf.of _
theorem g_tree_parser_rule_t32_sh : treeB C I g_tree_parser_rule.a24 (.one 16 .done) (St.mk s o) K =
 ((([] : List Nat) = [] ∧ (storeK (s 80) (cellsV (s 77)) 1 o (fun m1 ob2 =>
K (St.mk s (upd o m1 (some ob2))))))) := rfl
@[instance] theorem g_tree_parser_rule_t32_u : UnfAt (treeB C I g_tree_parser_rule.a24 g_tree_parser_rule.t32 (St.mk s o) K) g_tree_parser_rule_t32_sh := Unf.of _
theorem g_tree_parser_rule_t33_sh : treeB C I g_tree_parser_rule.a24 (.one 15 R_t32) (St.mk s o) K =
 ((([] : List Nat) = [] ∧ (demand (faddrV 0 (s 79)) (fun x1 =>
treeB C I g_tree_parser_rule.a24 R_t32 (St.mk (upd s 80 x1) o) K)))) := rfl
@[instance] theorem g_tree_parser_rule_t33_u : UnfAt (treeB C I g_tree_parser_rule.a24 g_tree_parser_rule.t33 (St.mk s o) K) g_tree_parser_rule_t33_sh := Unf.of _
theorem g_tree_parser_rule_t34_sh : treeB C I g_tree_parser_rule.a24 (.one 14 R_t33) (St.mk s o) K =
 ((([] : List Nat) = [] ∧ (demand (faddrV 3 (s 78)) (fun x1 =>
treeB C I g_tree_parser_rule.a24 R_t33 (St.mk (upd s 79 x1) o) K)))) := rfl
@[instance] theorem g_tree_parser_rule_t34_u : UnfAt (treeB C I g_tree_parser_rule.a24 g_tree_parser_rule.t34 (St.mk s o) K) g_tree_parser_rule_t34_sh := Unf.of _
theorem g_tree_parser_rule_t35_sh : treeB C I g_tree_parser_rule.a24 (.one 13 R_t34) (St.mk s o) K =
 ((([] : List Nat) = [] ∧ (demand (nilcV (s 65)) (fun x1 =>
treeB C I g_tree_parser_rule.a24 R_t34 (St.mk (upd s 78 x1) o) K)))) := rfl
@[instance] theorem g_tree_parser_rule_t35_u : UnfAt (treeB C I g_tree_parser_rule.a24 g_tree_parser_rule.t35 (St.mk s o) K) g_tree_parser_rule_t35_sh := Unf.of _
theorem g_tree_parser_rule_t36_sh : treeB C I g_tree_parser_rule.a24 (.one 12 R_t35) (St.mk s o) K =
 ((([] : List Nat) = [] ∧ (lstK (readD o (s 76)) (fun ys1 => (∀ e ∈ ys1, e.length = 3) ∧ appK (s 70)
 (ys1.length * 40 ≤ 140737488355328 ∧ ys1.length ≤ 140737488355328 ∧ ¬ I 77 ∧ Fresh (St.mk s o) 77 (some 77) ∧
treeB C I g_tree_parser_rule.a24 R_t35 (St.mk (upd s 77 (V.own 77)) (upd o 77 (some (Ob.row 3 ys1)))) K)
 (fun m2 => ¬ I m2 ∧ rowK (o m2) (fun z3 es4 => z3 = 3 ∧ (es4.length + ys1.length) * 40 ≤ 140737488355328 ∧ es4.length + ys1.length ≤ 140737488355328 ∧
treeB C I g_tree_parser_rule.a24 R_t35 (St.mk (upd (fun t => scrubV m2 (s t)) 77 (V.own m2)) (upd (fun n => (o n).map (Ob.scrub m2)) m2 (some (Ob.row 3 (es4 ++ ys1))))) K)))))) := rfl
@[instance] theorem g_tree_parser_rule_t36_u : UnfAt (treeB C I g_tree_parser_rule.a24 g_tree_parser_rule.t36 (St.mk s o) K) g_tree_parser_rule_t36_sh := Unf.of _
theorem g_tree_parser_rule_t37_sh : treeB C I g_tree_parser_rule.a24 (.one 11 R_t36) (St.mk s o) K =
 ((([] : List Nat) = [] ∧ (lstK (partsN 3 [(s 75)]) (fun es1 =>
treeB C I g_tree_parser_rule.a24 R_t36 (St.mk (upd s 76 (V.d (D.sl es1))) o) K)))) := rfl
@[instance] theorem g_tree_parser_rule_t37_u : UnfAt (treeB C I g_tree_parser_rule.a24 g_tree_parser_rule.t37 (St.mk s o) K) g_tree_parser_rule_t37_sh := Unf.of _
theorem g_tree_parser_rule_t38_sh : treeB C I g_tree_parser_rule.a24 (.one 10 R_t37) (St.mk s o) K =
 ((([] : List Nat) = [] ∧ (demand ((buildN [V.d (.str []), V.d (.str []), V.d (.int .i64 0)] [(0, 1, (s 71)), (1, 1, (s 73)), (2, 1, (s 74))]).map V.agg) (fun x1 =>
treeB C I g_tree_parser_rule.a24 R_t37 (St.mk (upd s 75 x1) o) K)))) := rfl
@[instance] theorem g_tree_parser_rule_t38_u : UnfAt (treeB C I g_tree_parser_rule.a24 g_tree_parser_rule.t38 (St.mk s o) K) g_tree_parser_rule_t38_sh := Unf.of _
theorem g_tree_parser_rule_t39_sh : treeB C I g_tree_parser_rule.a24 (.one 8 R_t38) (St.mk s o) K =
 ((([] : List Nat) = [] ∧ (demand (loadV o none (s 72)) (fun x1 =>
treeB C I g_tree_parser_rule.a24 R_t38 (St.mk (upd s 73 x1) o) K)))) := rfl
@[instance] theorem g_tree_parser_rule_t39_u : UnfAt (treeB C I g_tree_parser_rule.a24 g_tree_parser_rule.t39 (St.mk s o) K) g_tree_parser_rule_t39_sh := Unf.of _
theorem g_tree_parser_rule_t40_sh : treeB C I g_tree_parser_rule.a24 (.one 5 R_t36) (St.mk s o) K =
 ((([] : List Nat) = [] ∧ (demand (loadV o none (s 69)) (fun x1 =>
treeB C I g_tree_parser_rule.a24 R_t36 (St.mk (upd s 70 x1) o) K)))) := rfl
@[instance] theorem g_tree_parser_rule_t40_u : UnfAt (treeB C I g_tree_parser_rule.a24 g_tree_parser_rule.t40 (St.mk s o) K) g_tree_parser_rule_t40_sh := Unf.of _
theorem g_tree_parser_rule_t41_sh : treeB C I g_tree_parser_rule.a24 (.one 11 R_t40) (St.mk s o) K =
 ((([] : List Nat) = [] ∧ (lstK (partsN 3 [(s 75)]) (fun es1 =>
treeB C I g_tree_parser_rule.a24 R_t40 (St.mk (upd s 76 (V.d (D.sl es1))) o) K)))) := rfl
@[instance] theorem g_tree_parser_rule_t41_u : UnfAt (treeB C I g_tree_parser_rule.a24 g_tree_parser_rule.t41 (St.mk s o) K) g_tree_parser_rule_t41_sh := Unf.of _
theorem g_tree_parser_rule_t42_sh : treeB C I g_tree_parser_rule.a24 (.two 5 R_t37 R_t41) (St.mk s o) K =
 ((([] : List Nat) = [] ∧ (demand (loadV o none (s 69)) (fun x1 =>
treeB C I g_tree_parser_rule.a24 R_t37 (St.mk (upd s 70 x1) o) K))) ∧ treeB C I g_tree_parser_rule.a24 R_t41 (St.mk s o) K) := rfl
@[instance] theorem g_tree_parser_rule_t42_u : UnfAt (treeB C I g_tree_parser_rule.a24 g_tree_parser_rule.t42 (St.mk s o) K) g_tree_parser_rule_t42_sh := Unf.of _
theorem g_tree_parser_rule_t43_sh : treeB C I g_tree_parser_rule.a24 (.one 10 R_t42) (St.mk s o) K =
 ((([] : List Nat) = [] ∧ (demand ((buildN [V.d (.str []), V.d (.str []), V.d (.int .i64 0)] [(0, 1, (s 71)), (1, 1, (s 73)), (2, 1, (s 74))]).map V.agg) (fun x1 =>
treeB C I g_tree_parser_rule.a24 R_t42 (St.mk (upd s 75 x1) o) K)))) := rfl
@[instance] theorem g_tree_parser_rule_t43_u : UnfAt (treeB C I g_tree_parser_rule.a24 g_tree_parser_rule.t43 (St.mk s o) K) g_tree_parser_rule_t43_sh := Unf.of _
theorem g_tree_parser_rule_t44_sh : treeB C I g_tree_parser_rule.a24 (.two 5 R_t38 R_t43) (St.mk s o) K =
 ((([] : List Nat) = [] ∧ (demand (loadV o none (s 69)) (fun x1 =>
treeB C I g_tree_parser_rule.a24 R_t38 (St.mk (upd s 70 x1) o) K))) ∧ treeB C I g_tree_parser_rule.a24 R_t43 (St.mk s o) K) := rfl
@[instance] theorem g_tree_parser_rule_t44_u : UnfAt (treeB C I g_tree_parser_rule.a24 g_tree_parser_rule.t44 (St.mk s o) K) g_tree_parser_rule_t44_sh := Unf.of _
theorem g_tree_parser_rule_t45_sh : treeB C I g_tree_parser_rule.a24 (.one 8 R_t44) (St.mk s o) K =
 ((([] : List Nat) = [] ∧ (demand (loadV o none (s 72)) (fun x1 =>
treeB C I g_tree_parser_rule.a24 R_t44 (St.mk (upd s 73 x1) o) K)))) := rfl
@[instance] theorem g_tree_parser_rule_t45_u : UnfAt (treeB C I g_tree_parser_rule.a24 g_tree_parser_rule.t45 (St.mk s o) K) g_tree_parser_rule_t45_sh := Unf.of _
theorem g_tree_parser_rule_t46_sh : treeB C I g_tree_parser_rule.a24 (.two 5 R_t39 R_t45) (St.mk s o) K =
 ((([] : List Nat) = [] ∧ (demand (loadV o none (s 69)) (fun x1 =>
treeB C I g_tree_parser_rule.a24 R_t39 (St.mk (upd s 70 x1) o) K))) ∧ treeB C I g_tree_parser_rule.a24 R_t45 (St.mk s o) K) := rfl
@[instance] theorem g_tree_parser_rule_t46_u : UnfAt (treeB C I g_tree_parser_rule.a24 g_tree_parser_rule.t46 (St.mk s o) K) g_tree_parser_rule_t46_sh := Unf.of _
theorem g_tree_parser_rule_i31_sh : drawB C I g_tree_parser_rule.a24 (9 :: []) R_t46 (St.mk s o) K =
 ((s 74) = V.undef ∧ (quietV o ((s 6) :: [(s 6)]) ∧
treeB C I g_tree_parser_rule.a24 R_t46 (St.mk (upd s 74 (s 6)) o) K)) := rfl
@[instance] theorem g_tree_parser_rule_i31_u : UnfAt (drawB C I g_tree_parser_rule.a24 g_tree_parser_rule.i31 g_tree_parser_rule.t46 (St.mk s o) K) g_tree_parser_rule_i31_sh := Unf.of _
theorem g_tree_parser_rule_i30_sh : drawB C I g_tree_parser_rule.a24 (7 :: R_i31) R_t46 (St.mk s o) K =
 ((s 72) = V.undef ∧ (demand (faddrV 1 (s 5)) (fun x1 => quietV o (x1 :: [(s 5)]) ∧
drawB C I g_tree_parser_rule.a24 R_i31 R_t46 (St.mk (upd s 72 x1) o) K))) := rfl
@[instance] theorem g_tree_parser_rule_i30_u : UnfAt (drawB C I g_tree_parser_rule.a24 g_tree_parser_rule.i30 g_tree_parser_rule.t46 (St.mk s o) K) g_tree_parser_rule_i30_sh := Unf.of _
theorem g_tree_parser_rule_i29_sh : drawB C I g_tree_parser_rule.a24 (6 :: R_i30) R_t46 (St.mk s o) K =
 ((s 71) = V.undef ∧ (quietV o ((s 3) :: [(s 3)]) ∧
drawB C I g_tree_parser_rule.a24 R_i30 R_t46 (St.mk (upd s 71 (s 3)) o) K)) := rfl
@[instance] theorem g_tree_parser_rule_i29_u : UnfAt (drawB C I g_tree_parser_rule.a24 g_tree_parser_rule.i29 g_tree_parser_rule.t46 (St.mk s o) K) g_tree_parser_rule_i29_sh := Unf.of _
theorem g_tree_parser_rule_i28_sh : drawB C I g_tree_parser_rule.a24 (4 :: R_i29) R_t46 (St.mk s o) K =
 ((s 69) = V.undef ∧ (demand (faddrV 0 (s 68)) (fun x1 => quietV o (x1 :: [(s 68)]) ∧
drawB C I g_tree_parser_rule.a24 R_i29 R_t46 (St.mk (upd s 69 x1) o) K))) := rfl
@[instance] theorem g_tree_parser_rule_i28_u : UnfAt (drawB C I g_tree_parser_rule.a24 g_tree_parser_rule.i28 g_tree_parser_rule.t46 (St.mk s o) K) g_tree_parser_rule_i28_sh := Unf.of _
theorem g_tree_parser_rule_i27_sh : drawB C I g_tree_parser_rule.a24 (3 :: R_i28) R_t46 (St.mk s o) K =
 ((s 68) = V.undef ∧ (demand (faddrV 3 (s 67)) (fun x1 => quietV o (x1 :: [(s 67)]) ∧
drawB C I g_tree_parser_rule.a24 R_i28 R_t46 (St.mk (upd s 68 x1) o) K))) := rfl
@[instance] theorem g_tree_parser_rule_i27_u : UnfAt (drawB C I g_tree_parser_rule.a24 g_tree_parser_rule.i27 g_tree_parser_rule.t46 (St.mk s o) K) g_tree_parser_rule_i27_sh := Unf.of _
theorem g_tree_parser_rule_i26_sh : drawB C I g_tree_parser_rule.a24 (2 :: R_i27) R_t46 (St.mk s o) K =
 ((s 67) = V.undef ∧ (demand (nilcV (s 66)) (fun x1 => quietV o (x1 :: [(s 66)]) ∧
drawB C I g_tree_parser_rule.a24 R_i27 R_t46 (St.mk (upd s 67 x1) o) K))) := rfl
@[instance] theorem g_tree_parser_rule_i26_u : UnfAt (drawB C I g_tree_parser_rule.a24 g_tree_parser_rule.i26 g_tree_parser_rule.t46 (St.mk s o) K) g_tree_parser_rule_i26_sh := Unf.of _
theorem g_tree_parser_rule_i25_sh : drawB C I g_tree_parser_rule.a24 (1 :: R_i26) R_t46 (St.mk s o) K =
 ((s 66) = V.undef ∧ (quietV o ((s 0) :: [(s 0)]) ∧
drawB C I g_tree_parser_rule.a24 R_i26 R_t46 (St.mk (upd s 66 (s 0)) o) K)) := rfl
@[instance] theorem g_tree_parser_rule_i25_u : UnfAt (drawB C I g_tree_parser_rule.a24 g_tree_parser_rule.i25 g_tree_parser_rule.t46 (St.mk s o) K) g_tree_parser_rule_i25_sh := Unf.of _
theorem g_tree_parser_rule_c2_sh : wpB C I (g_tree_parser_rule.c2F R_i25 R_t46) (St.mk s o) Q =
 (callK C I (St.mk (upd s 59 (s 0)) o) (some 60) 220 [(s 0), (V.d (.str [61]))] (fun r1 or1 =>
callK C I (St.mk (upd (look [(0, s 0), (3, s 3), (5, s 5)]) 61 (s 0)) or1) (some 62) 221 [(s 0), (V.d (.int .i64 1))] (fun r2 or2 =>
callK C I (St.mk (upd (look [(0, s 0), (3, s 3), (5, s 5), (6, r2)]) 63 (s 0)) or2) (some 64) 220 [(s 0), (V.d (.str [59]))] (fun r3 or3 =>
V.undef = V.undef ∧ (quietV or3 ((s 0) :: [(s 0)]) ∧
drawB C I g_tree_parser_rule.a24 R_i25 R_t46 (St.mk (upd (look [(0, s 0), (3, s 3), (5, s 5), (6, r2)]) 65 (s 0)) or3) (fun st => Q .normal (St.trim st [] none))))))) := rfl
@[instance] theorem g_tree_parser_rule_c2_u : UnfAt (wpB C I g_tree_parser_rule.c2 (St.mk s o) Q) g_tree_parser_rule_c2_sh := Unf.of _
theorem g_tree_parser_rule_c3_sh : wpB C I (g_tree_parser_rule.c3F R_c2) (St.mk s o) Q =
 (demand (nilcV (s 0)) (fun x1 =>
demand (faddrV 2 x1) (fun x2 =>
demand (loadV o none x2) (fun x3 =>
demand (binV BinOp.add x3 (V.d (.int .i64 1))) (fun x4 =>
demand (nilcV (s 0)) (fun x5 =>
demand (faddrV 2 x5) (fun x6 =>
storeK x6 (cellsV x4) 1 o (fun m7 ob8 =>
wpB C I R_c2 (St.mk (look [(0, s 0), (3, s 3), (5, s 5)]) (upd o m7 (some ob8))) Q)))))))) := rfl
@[instance] theorem g_tree_parser_rule_c3_u : UnfAt (wpB C I g_tree_parser_rule.c3 (St.mk s o) Q) g_tree_parser_rule_c3_sh := Unf.of _
theorem g_tree_parser_rule_c4_sh : wpB C I (g_tree_parser_rule.c4F R_o22 R_c1 R_c3) (St.mk s o) Q =
 (demand (faddrV 0 (s 5)) (fun x1 =>
demand (loadV o none x1) (fun x2 =>
demand (binV BinOp.neq x2 (V.d (.int .i64 1))) (fun x3 =>
opsB C I R_o22 (St.mk (look [(0, s 0), (3, s 3), (5, s 5), (44, x3)]) o) (fun st => (seqK (fun st => wpB C I R_c1 st (seqK (fun st => wpB C I R_c3 st Q) Q)) (seqK (fun st => wpB C I R_c3 st Q) Q)) .normal (St.trim st [0, 3, 5, 49] none)))))) := rfl
@[instance] theorem g_tree_parser_rule_c4_u : UnfAt (wpB C I g_tree_parser_rule.c4 (St.mk s o) Q) g_tree_parser_rule_c4_sh := Unf.of _
theorem g_tree_parser_rule_c5_sh : wpB C I (g_tree_parser_rule.c5F R_c4) (St.mk s o) Q =
 (callK C I (St.mk (upd s 39 (s 0)) o) (some 40) 217 [(s 0)] (fun r1 or1 =>
(¬ I 5 ∧ Fresh (St.mk (upd (upd s 39 (s 0)) 40 r1) or1) 5 (some 5) ∧ V.refsL 5 [V.d (.int .i64 0), V.d (.str []), V.d (.int .i64 0)] = false ∧
storeK (V.ptr 5 0) (cellsV r1) 3 (upd or1 5 (some (Ob.box [V.d (.int .i64 0), V.d (.str []), V.d (.int .i64 0)]))) (fun m2 ob3 =>
wpB C I R_c4 (St.mk (look [(0, s 0), (3, s 3), (5, (V.ptr 5 0))]) (upd (upd or1 5 (some (Ob.box [V.d (.int .i64 0), V.d (.str []), V.d (.int .i64 0)]))) m2 (some ob3))) Q)))) := rfl
@[instance] theorem g_tree_parser_rule_c5_u : UnfAt (wpB C I g_tree_parser_rule.c5 (St.mk s o) Q) g_tree_parser_rule_c5_sh := Unf.of _
theorem g_tree_parser_rule_c6_sh : wpB C I (g_tree_parser_rule.c6F R_c5) (St.mk s o) Q =
 (demand (unV UnOp.not (s 4)) (fun x1 =>
condK x1
 (callK C I (St.mk (upd (look [(0, s 0), (3, s 3), (36, x1)]) 37 (s 0)) o) (some 38) 218 [(s 0), (V.d (.int .i64 2))] (fun r2 or2 =>
Q .ret (St.mk (look []) or2)))
 (wpB C I R_c5 (St.mk (look [(0, s 0), (3, s 3), (36, x1)]) o) Q))) := rfl
@[instance] theorem g_tree_parser_rule_c6_u : UnfAt (wpB C I g_tree_parser_rule.c6 (St.mk s o) Q) g_tree_parser_rule_c6_sh := Unf.of _
theorem g_tree_parser_rule_c7_sh : wpB C I (g_tree_parser_rule.c7F R_c6) (St.mk s o) Q =
 (callK C I (St.mk (upd s 30 (s 0)) o) (some 31) 157 [] (fun r1 or1 =>
callK C I (St.mk (upd (upd s 30 (s 0)) 31 r1) or1) (some 32) 219 [(s 0), r1] (fun r2 or2 =>
demand (extV r2 0) (fun x3 =>
demand (extV r2 1) (fun x4 =>
wpB C I R_c6 (St.mk (look [(0, s 0), (3, x3), (4, x4)]) or2) Q))))) := rfl
@[instance] theorem g_tree_parser_rule_c7_u : UnfAt (wpB C I g_tree_parser_rule.c7 (St.mk s o) Q) g_tree_parser_rule_c7_sh := Unf.of _
theorem g_tree_parser_rule_c8_sh : wpB C I (g_tree_parser_rule.c8F R_i1 R_t21 R_c0 R_c7) (St.mk s o) Q =
 ((s 9) = V.undef ∧ (quietV o ((s 0) :: [(s 0)]) ∧
drawB C I g_tree_parser_rule.a0 R_i1 R_t21 (St.mk (upd s 9 (s 0)) o) (fun st => (seqK (fun st => wpB C I R_c0 st (seqK (fun st => wpB C I R_c7 st Q) Q)) (seqK (fun st => wpB C I R_c7 st Q) Q)) .normal (St.trim st [0, 26] none)))) := rfl
@[instance] theorem g_tree_parser_rule_c8_u : UnfAt (wpB C I g_tree_parser_rule.c8 (St.mk s o) Q) g_tree_parser_rule_c8_sh := Unf.of _
theorem g_tree_parser_rule_code_sh : wpB C I (g_tree_parser_rule.codeF R_c8) (St.mk s o) Q =
 (callK C I (St.mk (upd s 7 (s 0)) o) (some 8) 217 [(s 0)] (fun r1 or1 =>
(¬ I 2 ∧ Fresh (St.mk (upd (upd s 7 (s 0)) 8 r1) or1) 2 (some 2) ∧ V.refsL 2 [V.d (.int .i64 0), V.d (.str []), V.d (.int .i64 0)] = false ∧
storeK (V.ptr 2 0) (cellsV r1) 3 (upd or1 2 (some (Ob.box [V.d (.int .i64 0), V.d (.str []), V.d (.int .i64 0)]))) (fun m2 ob3 =>
wpB C I R_c8 (St.mk (look [(0, s 0), (2, (V.ptr 2 0))]) (upd (upd or1 2 (some (Ob.box [V.d (.int .i64 0), V.d (.str []), V.d (.int .i64 0)]))) m2 (some ob3))) Q)))) := rfl
@[instance] theorem g_tree_parser_rule_code_u : UnfAt (wpB C I g_tree_parser_rule.code (St.mk s o) Q) g_tree_parser_rule_code_sh := Unf.of _
theorem g_show_sound_o1_sh : opsB C I (g_show_sound.o1) (St.mk s o) K =
 (demand (pickV (s 31) (V.d (.bool true)) (s 35)) (fun x1 =>
K (St.mk (upd s 36 x1) o))) := rfl
@[instance] theorem g_show_sound_o1_u : UnfAt (opsB C I g_show_sound.o1 (St.mk s o) K) g_show_sound_o1_sh := Unf.of _
theorem g_show_sound_o0_sh : opsB C I (g_show_sound.o0F R_o1) (St.mk s o) K =
 (guardK (s 31) false
 (demand (mmV true [(s 3), (V.d (.int .i64 1))]) (fun x1 =>
demand (binV BinOp.geq (s 6) x1) (fun x2 =>
opsB C I R_o1 (St.mk (look [(1, s 1), (3, s 3), (4, s 4), (10, s 10), (11, s 11), (12, s 12), (23, s 23), (24, s 24), (25, s 25), (31, (V.d (D.bool false))), (35, x2)]) (looko ([1, 4].map fun n => (n, o n)))) K)))
 (opsB C I R_o1 (St.mk (look [(1, s 1), (3, s 3), (4, s 4), (10, s 10), (11, s 11), (12, s 12), (23, s 23), (24, s 24), (25, s 25), (31, (V.d (D.bool true))), (35, (V.tup []))]) (looko ([1, 4].map fun n => (n, o n)))) K)
 (opsB C I R_o1 (St.mk (look [(1, s 1), (3, s 3), (4, s 4), (10, s 10), (11, s 11), (12, s 12), (23, s 23), (24, s 24), (25, s 25), (31, (V.tup [])), (35, (V.tup []))]) (looko ([1, 4].map fun n => (n, o n)))) K)) := rfl
@[instance] theorem g_show_sound_o0_u : UnfAt (opsB C I g_show_sound.o0 (St.mk s o) K) g_show_sound_o0_sh := Unf.of _
theorem g_show_sound_c0_sh : wpB C I (g_show_sound.c0) (St.mk s o) Q =
 (condK (s 36)
 (Q .ret (St.mk (look [(2, (V.d (.bool false)))]) (looko ([].map fun n => (n, o n)))))
 (Q .normal (St.mk s o))) := rfl
@[instance] theorem g_show_sound_c0_u : UnfAt (wpB C I g_show_sound.c0 (St.mk s o) Q) g_show_sound_c0_sh := Unf.of _
theorem g_show_sound_c1_sh : wpB C I (g_show_sound.c1) (St.mk s o) Q =
 (demand (binV BinOp.add (s 25) (V.d (.int .i64 1))) (fun x1 =>
Q .normal (St.mk (look [(1, s 1), (3, s 3), (4, s 4), (10, s 10), (11, s 11), (12, s 12), (23, s 23), (24, s 24), (25, x1)]) (looko ([1, 4].map fun n => (n, o n)))))) := rfl
@[instance] theorem g_show_sound_c1_u : UnfAt (wpB C I g_show_sound.c1 (St.mk s o) Q) g_show_sound_c1_sh := Unf.of _
theorem g_show_sound_l1_sh (hL : R_l1 = g_show_sound.l1F R_o0 R_c0 R_c1)
 (h : demand (binV BinOp.lss (s 25) (s 24)) (fun x1 =>
condK x1
 (demand (iaddrV (looko ([1, 4].map fun n => (n, o n))) 1 (s 23) (s 25)) (fun x2 =>
demand (loadV (looko ([1, 4].map fun n => (n, o n))) none x2) (fun x3 =>
demand (binV BinOp.lss x3 (V.d (.int .i64 0))) (fun x4 =>
opsB C I R_o0 (St.mk (look [(1, s 1), (3, s 3), (4, s 4), (6, x3), (10, s 10), (11, s 11), (12, s 12), (23, s 23), (24, s 24), (25, s 25), (31, x4)]) (looko ([1, 4].map fun n => (n, o n)))) (fun st => (seqK (fun st => wpB C I R_c0 st (blockK 3 [1, 3, 4, 10, 11, 12, 23, 24, 25] (some [1, 4]) (seqK (fun st => wpB C I R_c1 st (seqK (fun s => wpB C I R_l1 s Q) Q)) (seqK (fun s => wpB C I R_l1 s Q) Q)))) (blockK 3 [1, 3, 4, 10, 11, 12, 23, 24, 25] (some [1, 4]) (seqK (fun st => wpB C I R_c1 st (seqK (fun s => wpB C I R_l1 s Q) Q)) (seqK (fun s => wpB C I R_l1 s Q) Q)))) .normal (St.trim st [1, 3, 4, 10, 11, 12, 23, 24, 25, 36] (some [1, 4])))))))
 (Q (.exit 2) (St.mk (look [(1, s 1), (3, s 3), (4, s 4), (10, s 10), (11, s 11), (12, s 12), (23, s 23), (24, s 24), (25, s 25), (26, x1)]) (looko ([1, 4].map fun n => (n, o n))))))) : wpB C I R_l1 (St.mk s o) Q := w_loopC hL h
theorem g_show_sound_c2_sh : wpB C I (g_show_sound.c2F R_l1) (St.mk s o) Q =
 (wpB C I R_l1 (St.mk s o) (blockK 2 [1, 4, 10, 11, 12] (some [1, 4]) Q)) := rfl
@[instance] theorem g_show_sound_c2_u : UnfAt (wpB C I g_show_sound.c2 (St.mk s o) Q) g_show_sound_c2_sh := Unf.of _
theorem g_show_sound_o3_sh : opsB C I (g_show_sound.o3) (St.mk s o) K =
 (demand (pickV (s 42) (V.d (.bool true)) (s 46)) (fun x1 =>
K (St.mk (upd s 47 x1) o))) := rfl
@[instance] theorem g_show_sound_o3_u : UnfAt (opsB C I g_show_sound.o3 (St.mk s o) K) g_show_sound_o3_sh := Unf.of _
theorem g_show_sound_o2_sh : opsB C I (g_show_sound.o2F R_o3) (St.mk s o) K =
 (guardK (s 42) false
 (demand (faddrV 1 (s 4)) (fun x1 =>
demand (loadV o none x1) (fun x2 =>
demand (lenSV x2) (fun x3 =>
demand (binV BinOp.gtr x3 (V.d (.int .i64 12))) (fun x4 =>
opsB C I R_o3 (St.mk (look [(1, s 1), (10, s 10), (11, s 11), (12, s 12), (42, (V.d (D.bool false))), (46, x4)]) (looko ([1].map fun n => (n, o n)))) K)))))
 (opsB C I R_o3 (St.mk (look [(1, s 1), (10, s 10), (11, s 11), (12, s 12), (42, (V.d (D.bool true))), (46, (V.tup []))]) (looko ([1].map fun n => (n, o n)))) K)
 (opsB C I R_o3 (St.mk (look [(1, s 1), (10, s 10), (11, s 11), (12, s 12), (42, (V.tup [])), (46, (V.tup []))]) (looko ([1].map fun n => (n, o n)))) K)) := rfl
@[instance] theorem g_show_sound_o2_u : UnfAt (opsB C I g_show_sound.o2 (St.mk s o) K) g_show_sound_o2_sh := Unf.of _
theorem g_show_sound_c3_sh : wpB C I (g_show_sound.c3) (St.mk s o) Q =
 (condK (s 47)
 (Q .ret (St.mk (look [(2, (V.d (.bool false)))]) (looko ([].map fun n => (n, o n)))))
 (Q .normal (St.mk s o))) := rfl
@[instance] theorem g_show_sound_c3_u : UnfAt (wpB C I g_show_sound.c3 (St.mk s o) Q) g_show_sound_c3_sh := Unf.of _
theorem g_show_sound_c4_sh : wpB C I (g_show_sound.c4F R_o2 R_c3) (St.mk s o) Q =
 (demand (faddrV 0 (s 4)) (fun x1 =>
demand (loadV o none x1) (fun x2 =>
demand (lenSV x2) (fun x3 =>
demand (binV BinOp.gtr x3 (V.d (.int .i64 12))) (fun x4 =>
opsB C I R_o2 (St.mk (look [(1, s 1), (4, s 4), (10, s 10), (11, s 11), (12, s 12), (42, x4)]) (looko ([1, 4].map fun n => (n, o n)))) (fun st => (seqK (fun st => wpB C I R_c3 st Q) Q) .normal (St.trim st [1, 10, 11, 12, 47] (some [1])))))))) := rfl
@[instance] theorem g_show_sound_c4_u : UnfAt (wpB C I g_show_sound.c4 (St.mk s o) Q) g_show_sound_c4_sh := Unf.of _
theorem g_show_sound_c5_sh : wpB C I (g_show_sound.c5F R_c2 R_c4) (St.mk s o) Q =
 (demand (faddrV 3 (s 4)) (fun x1 =>
demand (loadV o none x1) (fun x2 =>
demand (faddrV 4 (s 4)) (fun x3 =>
demand (loadV o none x3) (fun x4 =>
demand (faddrV 5 (s 4)) (fun x5 =>
demand (loadV o none x5) (fun x6 =>
lstK (partsN 1 [x2, x4, x6]) (fun es7 =>
demand (lenV o (V.d (D.sl es7))) (fun x8 =>
wpB C I R_c2 (St.mk (look [(1, s 1), (3, s 3), (4, s 4), (10, s 10), (11, s 11), (12, s 12), (23, (V.d (D.sl es7))), (24, x8), (25, (V.d (.int .i64 0)))]) (looko ([1, 4].map fun n => (n, o n)))) (seqK (fun st => wpB C I R_c4 st Q) Q)))))))))) := rfl
@[instance] theorem g_show_sound_c5_u : UnfAt (wpB C I g_show_sound.c5 (St.mk s o) Q) g_show_sound_c5_sh := Unf.of _
theorem g_show_sound_c6_sh : wpB C I (g_show_sound.c6) (St.mk s o) Q =
 (demand (binV BinOp.add (s 12) (V.d (.int .i64 1))) (fun x1 =>
Q .normal (St.mk (look [(1, s 1), (10, s 10), (11, s 11), (12, x1)]) (looko ([1].map fun n => (n, o n)))))) := rfl
@[instance] theorem g_show_sound_c6_u : UnfAt (wpB C I g_show_sound.c6 (St.mk s o) Q) g_show_sound_c6_sh := Unf.of _
theorem g_show_sound_l0_sh (hL : R_l0 = g_show_sound.l0F R_c5 R_c6)
 (h : demand (binV BinOp.lss (s 12) (s 11)) (fun x1 =>
condK x1
 (demand (iaddrV (looko ([1].map fun n => (n, o n))) 6 (s 10) (s 12)) (fun x2 =>
demand (loadV (looko ([1].map fun n => (n, o n))) (some 6) x2) (fun x3 =>
(¬ I 4 ∧ Fresh (St.mk (upd (upd (upd (look [(1, s 1), (10, s 10), (11, s 11), (12, s 12), (13, x1)]) 14 (s 12)) 15 x2) 16 x3) (looko ([1].map fun n => (n, o n)))) 4 (some 4) ∧ V.refsL 4 [V.d (.str []), V.d (.str []), V.d (.int .i64 0), V.d (.int .i64 0), V.d (.int .i64 0), V.d (.int .i64 0)] = false ∧
storeK (V.ptr 4 0) (cellsV x3) 6 (upd (looko ([1].map fun n => (n, o n))) 4 (some (Ob.box [V.d (.str []), V.d (.str []), V.d (.int .i64 0), V.d (.int .i64 0), V.d (.int .i64 0), V.d (.int .i64 0)]))) (fun m4 ob5 =>
wpB C I R_c5 (St.mk (look [(1, s 1), (3, s 12), (4, (V.ptr 4 0)), (10, s 10), (11, s 11), (12, s 12)]) (looko ([1, 4].map fun n => (n, (upd (upd (looko ([1].map fun n => (n, o n))) 4 (some (Ob.box [V.d (.str []), V.d (.str []), V.d (.int .i64 0), V.d (.int .i64 0), V.d (.int .i64 0), V.d (.int .i64 0)]))) m4 (some ob5)) n)))) (blockK 1 [1, 10, 11, 12] (some [1]) (seqK (fun st => wpB C I R_c6 st (seqK (fun s => wpB C I R_l0 s Q) Q)) (seqK (fun s => wpB C I R_l0 s Q) Q))))))))
 (Q (.exit 0) (St.mk (look [(1, s 1), (10, s 10), (11, s 11), (12, s 12), (13, x1)]) (looko ([1].map fun n => (n, o n))))))) : wpB C I R_l0 (St.mk s o) Q := w_loopC hL h
theorem g_show_sound_c7_sh : wpB C I (g_show_sound.c7F R_l0) (St.mk s o) Q =
 (wpB C I R_l0 (St.mk s o) (blockK 0 [1] (some [1]) Q)) := rfl
@[instance] theorem g_show_sound_c7_u : UnfAt (wpB C I g_show_sound.c7 (St.mk s o) Q) g_show_sound_c7_sh := Unf.of _
theorem g_show_sound_o9_sh : opsB C I (g_show_sound.o9) (St.mk s o) K =
 (demand (pickV (s 73) (V.d (.bool true)) (s 77)) (fun x1 =>
K (St.mk (upd s 78 x1) o))) := rfl
@[instance] theorem g_show_sound_o9_u : UnfAt (opsB C I g_show_sound.o9 (St.mk s o) K) g_show_sound_o9_sh := Unf.of _
theorem g_show_sound_o8_sh : opsB C I (g_show_sound.o8F R_o9) (St.mk s o) K =
 (guardK (s 73) false
 (demand (faddrV 1 (s 8)) (fun x1 =>
demand (loadV o none x1) (fun x2 =>
demand (lenSV x2) (fun x3 =>
demand (binV BinOp.gtr x3 (V.d (.int .i64 12))) (fun x4 =>
opsB C I R_o9 (St.mk (look [(1, s 1), (50, s 50), (51, s 51), (52, s 52), (73, (V.d (D.bool false))), (77, x4)]) (looko ([1].map fun n => (n, o n)))) K)))))
 (opsB C I R_o9 (St.mk (look [(1, s 1), (50, s 50), (51, s 51), (52, s 52), (73, (V.d (D.bool true))), (77, (V.tup []))]) (looko ([1].map fun n => (n, o n)))) K)
 (opsB C I R_o9 (St.mk (look [(1, s 1), (50, s 50), (51, s 51), (52, s 52), (73, (V.tup [])), (77, (V.tup []))]) (looko ([1].map fun n => (n, o n)))) K)) := rfl
@[instance] theorem g_show_sound_o8_u : UnfAt (opsB C I g_show_sound.o8 (St.mk s o) K) g_show_sound_o8_sh := Unf.of _
theorem g_show_sound_o7_sh : opsB C I (g_show_sound.o7F R_o8) (St.mk s o) K =
 (demand (pickV (s 67) (V.d (.bool true)) (s 71)) (fun x1 =>
opsB C I R_o8 (St.mk (look [(1, s 1), (8, s 8), (50, s 50), (51, s 51), (52, s 52), (73, x1)]) (looko ([1, 8].map fun n => (n, o n)))) K)) := rfl
@[instance] theorem g_show_sound_o7_u : UnfAt (opsB C I g_show_sound.o7 (St.mk s o) K) g_show_sound_o7_sh := Unf.of _
theorem g_show_sound_o6_sh : opsB C I (g_show_sound.o6F R_o7) (St.mk s o) K =
 (guardK (s 67) false
 (demand (faddrV 0 (s 8)) (fun x1 =>
demand (loadV o none x1) (fun x2 =>
demand (lenSV x2) (fun x3 =>
demand (binV BinOp.gtr x3 (V.d (.int .i64 12))) (fun x4 =>
opsB C I R_o7 (St.mk (look [(1, s 1), (8, s 8), (50, s 50), (51, s 51), (52, s 52), (67, (V.d (D.bool false))), (71, x4)]) (looko ([1, 8].map fun n => (n, o n)))) K)))))
 (opsB C I R_o7 (St.mk (look [(1, s 1), (8, s 8), (50, s 50), (51, s 51), (52, s 52), (67, (V.d (D.bool true))), (71, (V.tup []))]) (looko ([1, 8].map fun n => (n, o n)))) K)
 (opsB C I R_o7 (St.mk (look [(1, s 1), (8, s 8), (50, s 50), (51, s 51), (52, s 52), (67, (V.tup [])), (71, (V.tup []))]) (looko ([1, 8].map fun n => (n, o n)))) K)) := rfl
@[instance] theorem g_show_sound_o6_u : UnfAt (opsB C I g_show_sound.o6 (St.mk s o) K) g_show_sound_o6_sh := Unf.of _
theorem g_show_sound_o5_sh : opsB C I (g_show_sound.o5F R_o6) (St.mk s o) K =
 (demand (pickV (s 59) (V.d (.bool true)) (s 65)) (fun x1 =>
opsB C I R_o6 (St.mk (look [(1, s 1), (8, s 8), (50, s 50), (51, s 51), (52, s 52), (67, x1)]) (looko ([1, 8].map fun n => (n, o n)))) K)) := rfl
@[instance] theorem g_show_sound_o5_u : UnfAt (opsB C I g_show_sound.o5 (St.mk s o) K) g_show_sound_o5_sh := Unf.of _
theorem g_show_sound_o4_sh : opsB C I (g_show_sound.o4F R_o5) (St.mk s o) K =
 (guardK (s 59) false
 (demand (faddrV 2 (s 8)) (fun x1 =>
demand (loadV o none x1) (fun x2 =>
demand (faddrV 1 (s 1)) (fun x3 =>
demand (loadV o none x3) (fun x4 =>
demand (lenV o x4) (fun x5 =>
demand (binV BinOp.geq x2 x5) (fun x6 =>
opsB C I R_o5 (St.mk (look [(1, s 1), (8, s 8), (50, s 50), (51, s 51), (52, s 52), (59, (V.d (D.bool false))), (65, x6)]) (looko ([1, 8].map fun n => (n, o n)))) K)))))))
 (opsB C I R_o5 (St.mk (look [(1, s 1), (8, s 8), (50, s 50), (51, s 51), (52, s 52), (59, (V.d (D.bool true))), (65, (V.tup []))]) (looko ([1, 8].map fun n => (n, o n)))) K)
 (opsB C I R_o5 (St.mk (look [(1, s 1), (8, s 8), (50, s 50), (51, s 51), (52, s 52), (59, (V.tup [])), (65, (V.tup []))]) (looko ([1, 8].map fun n => (n, o n)))) K)) := rfl
@[instance] theorem g_show_sound_o4_u : UnfAt (opsB C I g_show_sound.o4 (St.mk s o) K) g_show_sound_o4_sh := Unf.of _
theorem g_show_sound_c8_sh : wpB C I (g_show_sound.c8) (St.mk s o) Q =
 (condK (s 78)
 (Q .ret (St.mk (look [(2, (V.d (.bool false)))]) (looko ([].map fun n => (n, o n)))))
 (Q .normal (St.mk s o))) := rfl
@[instance] theorem g_show_sound_c8_u : UnfAt (wpB C I g_show_sound.c8 (St.mk s o) Q) g_show_sound_c8_sh := Unf.of _
theorem g_show_sound_c9_sh : wpB C I (g_show_sound.c9F R_o4 R_c8) (St.mk s o) Q =
 (demand (faddrV 2 (s 8)) (fun x1 =>
demand (loadV o none x1) (fun x2 =>
demand (binV BinOp.lss x2 (V.d (.int .i64 0))) (fun x3 =>
opsB C I R_o4 (St.mk (look [(1, s 1), (8, s 8), (50, s 50), (51, s 51), (52, s 52), (59, x3)]) (looko ([1, 8].map fun n => (n, o n)))) (fun st => (seqK (fun st => wpB C I R_c8 st Q) Q) .normal (St.trim st [1, 50, 51, 52, 78] (some [1]))))))) := rfl
@[instance] theorem g_show_sound_c9_u : UnfAt (wpB C I g_show_sound.c9 (St.mk s o) Q) g_show_sound_c9_sh := Unf.of _
theorem g_show_sound_c10_sh : wpB C I (g_show_sound.c10) (St.mk s o) Q =
 (demand (binV BinOp.add (s 52) (V.d (.int .i64 1))) (fun x1 =>
Q .normal (St.mk (look [(1, s 1), (50, s 50), (51, s 51), (52, x1)]) (looko ([1].map fun n => (n, o n)))))) := rfl
@[instance] theorem g_show_sound_c10_u : UnfAt (wpB C I g_show_sound.c10 (St.mk s o) Q) g_show_sound_c10_sh := Unf.of _
theorem g_show_sound_l2_sh (hL : R_l2 = g_show_sound.l2F R_c9 R_c10)
 (h : demand (binV BinOp.lss (s 52) (s 51)) (fun x1 =>
condK x1
 (demand (iaddrV (looko ([1].map fun n => (n, o n))) 3 (s 50) (s 52)) (fun x2 =>
demand (loadV (looko ([1].map fun n => (n, o n))) (some 3) x2) (fun x3 =>
(¬ I 8 ∧ Fresh (St.mk (upd (upd (look [(1, s 1), (50, s 50), (51, s 51), (52, s 52), (53, x1)]) 54 x2) 55 x3) (looko ([1].map fun n => (n, o n)))) 8 (some 8) ∧ V.refsL 8 [V.d (.str []), V.d (.str []), V.d (.int .i64 0)] = false ∧
storeK (V.ptr 8 0) (cellsV x3) 3 (upd (looko ([1].map fun n => (n, o n))) 8 (some (Ob.box [V.d (.str []), V.d (.str []), V.d (.int .i64 0)]))) (fun m4 ob5 =>
wpB C I R_c9 (St.mk (look [(1, s 1), (8, (V.ptr 8 0)), (50, s 50), (51, s 51), (52, s 52)]) (looko ([1, 8].map fun n => (n, (upd (upd (looko ([1].map fun n => (n, o n))) 8 (some (Ob.box [V.d (.str []), V.d (.str []), V.d (.int .i64 0)]))) m4 (some ob5)) n)))) (blockK 5 [1, 50, 51, 52] (some [1]) (seqK (fun st => wpB C I R_c10 st (seqK (fun s => wpB C I R_l2 s Q) Q)) (seqK (fun s => wpB C I R_l2 s Q) Q))))))))
 (Q (.exit 4) (St.mk (look [(1, s 1), (50, s 50), (51, s 51), (52, s 52), (53, x1)]) (looko ([1].map fun n => (n, o n))))))) : wpB C I R_l2 (St.mk s o) Q := w_loopC hL h
theorem g_show_sound_c11_sh : wpB C I (g_show_sound.c11F R_l2) (St.mk s o) Q =
 (wpB C I R_l2 (St.mk s o) (blockK 4 [1] (some [1]) Q)) := rfl
@[instance] theorem g_show_sound_c11_u : UnfAt (wpB C I g_show_sound.c11 (St.mk s o) Q) g_show_sound_c11_sh := Unf.of _
theorem g_show_sound_c12_sh : wpB C I (g_show_sound.c12) (St.mk s o) Q =
 (demand (faddrV 0 (s 1)) (fun x1 =>
demand (loadV o none x1) (fun x2 =>
demand (lenV o x2) (fun x3 =>
demand (binV BinOp.leq x3 (V.d (.int .i64 60))) (fun x4 =>
Q .ret (St.mk (look [(2, x4)]) (looko ([].map fun n => (n, o n))))))))) := rfl
@[instance] theorem g_show_sound_c12_u : UnfAt (wpB C I g_show_sound.c12 (St.mk s o) Q) g_show_sound_c12_sh := Unf.of _
theorem g_show_sound_c13_sh : wpB C I (g_show_sound.c13F R_c11 R_c12) (St.mk s o) Q =
 (demand (faddrV 0 (s 1)) (fun x1 =>
demand (loadV o none x1) (fun x2 =>
demand (lenV o x2) (fun x3 =>
wpB C I R_c11 (St.mk (look [(1, s 1), (50, x2), (51, x3), (52, (V.d (.int .i64 0)))]) (looko ([1].map fun n => (n, o n)))) (seqK (fun st => wpB C I R_c12 st Q) Q))))) := rfl
@[instance] theorem g_show_sound_c13_u : UnfAt (wpB C I g_show_sound.c13 (St.mk s o) Q) g_show_sound_c13_sh := Unf.of _
theorem g_show_sound_code_sh : wpB C I (g_show_sound.codeF R_c7 R_c13) (St.mk s o) Q =
 (lstK (cellsV (s 0)) (fun c1 => c1.length = 2 ∧ ¬ I 1 ∧ Fresh (St.mk s o) 1 (some 1) ∧ V.refsL 1 c1 = false ∧
demand (faddrV 1 (V.ptr 1 0)) (fun x2 =>
demand (loadV (looko ([1].map fun n => (n, (upd o 1 (some (Ob.box c1))) n))) none x2) (fun x3 =>
demand (lenV (looko ([1].map fun n => (n, (upd o 1 (some (Ob.box c1))) n))) x3) (fun x4 =>
wpB C I R_c7 (St.mk (look [(1, (V.ptr 1 0)), (10, x3), (11, x4), (12, (V.d (.int .i64 0)))]) (looko ([1].map fun n => (n, (upd o 1 (some (Ob.box c1))) n)))) (seqK (fun st => wpB C I R_c13 st Q) Q)))))) := rfl
@[instance] theorem g_show_sound_code_u : UnfAt (wpB C I g_show_sound.code (St.mk s o) Q) g_show_sound_code_sh := Unf.of _
theorem g_show_text_c0_sh : wpB C I (g_show_text.c0) (St.mk s o) Q =
 ((s 13) = V.undef ∧ (demand (faddrV 0 (s 5)) (fun x1 => quietV o (x1 :: [(s 5)]) ∧
(s 14) = V.undef ∧ (demand (loadV o none x1) (fun x2 => quietV o (x2 :: [x1]) ∧
(s 15) = V.undef ∧ (demand (binV BinOp.add x2 (V.d (.str [32]))) (fun x3 => quietV o (x3 :: [x2, (V.d (.str [32]))]) ∧
(s 16) = V.undef ∧ (demand (faddrV 1 (s 5)) (fun x4 => quietV o (x4 :: [(s 5)]) ∧
(s 17) = V.undef ∧ (demand (loadV o none x4) (fun x5 => quietV o (x5 :: [x4]) ∧
(s 18) = V.undef ∧ (demand (binV BinOp.add x3 x5) (fun x6 => quietV o (x6 :: [x3, x5]) ∧
(s 19) = V.undef ∧ (demand (binV BinOp.add x6 (V.d (.str [32, 61, 32]))) (fun x7 => quietV o (x7 :: [x6, (V.d (.str [32, 61, 32]))]) ∧
(s 20) = V.undef ∧ (demand (loadV o (some 2) (s 1)) (fun x8 => quietV o (x8 :: [(s 1)]) ∧
(s 21) = V.undef ∧ (demand (faddrV 2 (s 5)) (fun x9 => quietV o (x9 :: [(s 5)]) ∧
(s 22) = V.undef ∧ (demand (loadV o none x9) (fun x10 => quietV o (x10 :: [x9]) ∧
(s 23) = V.undef ∧ (∃ x11, SoundAt C 200 ⟨[x8, x10], fun _ => none⟩ ⟨x11, fun _ => none⟩ ∧ (∀ n, V.refs n x11 = false) ∧ quietV o (x11 :: [x8, x10]) ∧
(s 24) = V.undef ∧ (demand (binV BinOp.add x7 x11) (fun x12 => quietV o (x12 :: [x7, x11]) ∧
(s 25) = V.undef ∧ (demand (binV BinOp.add x12 (V.d (.str [59, 10]))) (fun x13 => quietV o (x13 :: [x12, (V.d (.str [59, 10]))]) ∧
(([] : List Nat) = [] ∧ (fnK (V.fn 128 []) (fun f15 cs16 => callK C I (St.mk (upd (upd (upd (upd (upd (upd (upd (upd (upd (upd (upd (upd (upd s 13 x1) 14 x2) 15 x3) 16 x4) 17 x5) 18 x6) 19 x7) 20 x8) 21 x9) 22 x10) 23 x11) 24 x12) 25 x13) o) (some 26) f15 ([(s 3), x13] ++ cs16) (fun r14 or14 =>
Q .normal (St.mk (look [(1, s 1), (3, s 3), (7, s 7), (8, s 8), (9, s 9)]) (looko ([1, 3, 503].map fun n => (n, or14 n)))))))))))))))))))))))))))))))))) := rfl
@[instance] theorem g_show_text_c0_u : UnfAt (wpB C I g_show_text.c0 (St.mk s o) Q) g_show_text_c0_sh := Unf.of _
theorem g_show_text_c1_sh : wpB C I (g_show_text.c1) (St.mk s o) Q =
 (demand (binV BinOp.add (s 9) (V.d (.int .i64 1))) (fun x1 =>
Q .normal (St.mk (look [(1, s 1), (3, s 3), (7, s 7), (8, s 8), (9, x1)]) (looko ([1, 3, 503].map fun n => (n, o n)))))) := rfl
@[instance] theorem g_show_text_c1_u : UnfAt (wpB C I g_show_text.c1 (St.mk s o) Q) g_show_text_c1_sh := Unf.of _
theorem g_show_text_l0_sh (hL : R_l0 = g_show_text.l0F R_c0 R_c1)
 (h : demand (binV BinOp.lss (s 9) (s 8)) (fun x1 =>
condK x1
 (demand (iaddrV (looko ([1, 3, 503].map fun n => (n, o n))) 3 (s 7) (s 9)) (fun x2 =>
demand (loadV (looko ([1, 3, 503].map fun n => (n, o n))) (some 3) x2) (fun x3 =>
(¬ I 5 ∧ Fresh (St.mk (upd (upd (look [(1, s 1), (3, s 3), (7, s 7), (8, s 8), (9, s 9), (10, x1)]) 11 x2) 12 x3) (looko ([1, 3, 503].map fun n => (n, o n)))) 5 (some 5) ∧ V.refsL 5 [V.d (.str []), V.d (.str []), V.d (.int .i64 0)] = false ∧
storeK (V.ptr 5 0) (cellsV x3) 3 (upd (looko ([1, 3, 503].map fun n => (n, o n))) 5 (some (Ob.box [V.d (.str []), V.d (.str []), V.d (.int .i64 0)]))) (fun m4 ob5 =>
wpB C I R_c0 (St.mk (look [(1, s 1), (3, s 3), (5, (V.ptr 5 0)), (7, s 7), (8, s 8), (9, s 9)]) (looko ([1, 3, 5, 503].map fun n => (n, (upd (upd (looko ([1, 3, 503].map fun n => (n, o n))) 5 (some (Ob.box [V.d (.str []), V.d (.str []), V.d (.int .i64 0)]))) m4 (some ob5)) n)))) (blockK 1 [1, 3, 7, 8, 9] (some [1, 3, 503]) (seqK (fun st => wpB C I R_c1 st (seqK (fun s => wpB C I R_l0 s Q) Q)) (seqK (fun s => wpB C I R_l0 s Q) Q))))))))
 (Q (.exit 0) (St.mk (look [(1, s 1), (3, s 3), (7, s 7), (8, s 8), (9, s 9), (10, x1)]) (looko ([1, 3, 503].map fun n => (n, o n))))))) : wpB C I R_l0 (St.mk s o) Q := w_loopC hL h
theorem g_show_text_c2_sh : wpB C I (g_show_text.c2F R_l0) (St.mk s o) Q =
 (wpB C I R_l0 (St.mk s o) (blockK 0 [3] (some [3, 503]) Q)) := rfl
@[instance] theorem g_show_text_c2_u : UnfAt (wpB C I g_show_text.c2 (St.mk s o) Q) g_show_text_c2_sh := Unf.of _
theorem g_show_text_c3_sh : wpB C I (g_show_text.c3) (St.mk s o) Q =
 (callK C I (St.mk s o) (some 28) 130 [(s 3)] (fun r1 or1 =>
Q .ret (St.mk (look [(2, r1)]) (looko ([].map fun n => (n, or1 n)))))) := rfl
@[instance] theorem g_show_text_c3_u : UnfAt (wpB C I g_show_text.c3 (St.mk s o) Q) g_show_text_c3_sh := Unf.of _
theorem g_show_text_code_sh : wpB C I (g_show_text.codeF R_c2 R_c3) (St.mk s o) Q =
 (lstK (cellsV (s 0)) (fun c1 => c1.length = 2 ∧ ¬ I 1 ∧ Fresh (St.mk s o) 1 (some 1) ∧ V.refsL 1 c1 = false ∧
(¬ I 3 ∧ ¬ I 503 ∧ 503 ≠ 3 ∧ Fresh (St.mk (look [(1, (V.ptr 1 0))]) (looko ([1].map fun n => (n, (upd o 1 (some (Ob.box c1))) n)))) 503 none ∧ Fresh (St.mk (look [(1, (V.ptr 1 0))]) (looko ([1].map fun n => (n, (upd o 1 (some (Ob.box c1))) n)))) 3 (some 3) ∧
demand (faddrV 0 (V.ptr 1 0)) (fun x2 =>
demand (loadV (looko ([1, 3, 503].map fun n => (n, (upd (upd (looko ([1].map fun n => (n, (upd o 1 (some (Ob.box c1))) n))) 503 (some (Ob.brow []))) 3 (some (Ob.bld 503))) n))) none x2) (fun x3 =>
demand (lenV (looko ([1, 3, 503].map fun n => (n, (upd (upd (looko ([1].map fun n => (n, (upd o 1 (some (Ob.box c1))) n))) 503 (some (Ob.brow []))) 3 (some (Ob.bld 503))) n))) x3) (fun x4 =>
wpB C I R_c2 (St.mk (look [(1, (V.ptr 1 0)), (3, (V.ptr 3 0)), (7, x3), (8, x4), (9, (V.d (.int .i64 0)))]) (looko ([1, 3, 503].map fun n => (n, (upd (upd (looko ([1].map fun n => (n, (upd o 1 (some (Ob.box c1))) n))) 503 (some (Ob.brow []))) 3 (some (Ob.bld 503))) n)))) (seqK (fun st => wpB C I R_c3 st Q) Q))))))) := rfl
@[instance] theorem g_show_text_code_u : UnfAt (wpB C I g_show_text.code (St.mk s o) Q) g_show_text_code_sh := Unf.of _
theorem g_show_same_o1_sh : opsB C I (g_show_same.o1) (St.mk s o) K =
 (demand (pickV (s 14) (V.d (.bool true)) (s 21)) (fun x1 =>
K (St.mk (upd s 22 x1) o))) := rfl
@[instance] theorem g_show_same_o1_u : UnfAt (opsB C I g_show_same.o1 (St.mk s o) K) g_show_same_o1_sh := Unf.of _
theorem g_show_same_o0_sh : opsB C I (g_show_same.o0F R_o1) (St.mk s o) K =
 (guardK (s 14) false
 (demand (faddrV 1 (s 2)) (fun x1 =>
demand (loadV o none x1) (fun x2 =>
demand (lenV o x2) (fun x3 =>
demand (faddrV 1 (s 3)) (fun x4 =>
demand (loadV o none x4) (fun x5 =>
demand (lenV o x5) (fun x6 =>
demand (binV BinOp.neq x3 x6) (fun x7 =>
opsB C I R_o1 (St.mk (look [(2, s 2), (3, s 3), (14, (V.d (D.bool false))), (21, x7)]) (looko ([2, 3].map fun n => (n, o n)))) K))))))))
 (opsB C I R_o1 (St.mk (look [(2, s 2), (3, s 3), (14, (V.d (D.bool true))), (21, (V.tup []))]) (looko ([2, 3].map fun n => (n, o n)))) K)
 (opsB C I R_o1 (St.mk (look [(2, s 2), (3, s 3), (14, (V.tup [])), (21, (V.tup []))]) (looko ([2, 3].map fun n => (n, o n)))) K)) := rfl
@[instance] theorem g_show_same_o0_u : UnfAt (opsB C I g_show_same.o0 (St.mk s o) K) g_show_same_o0_sh := Unf.of _
theorem g_show_same_c0_sh : wpB C I (g_show_same.c0) (St.mk s o) Q =
 (condK (s 22)
 (Q .ret (St.mk (look [(4, (V.d (.bool false)))]) (looko ([].map fun n => (n, o n)))))
 (Q .normal (St.mk s o))) := rfl
@[instance] theorem g_show_same_c0_u : UnfAt (wpB C I g_show_same.c0 (St.mk s o) Q) g_show_same_c0_sh := Unf.of _
theorem g_show_same_c1_sh : wpB C I (g_show_same.c1) (St.mk s o) Q =
 (demand (binV BinOp.add (s 26) (V.d (.int .i64 1))) (fun x1 =>
Q .normal (St.mk (look [(2, s 2), (3, s 3), (25, s 25), (26, x1)]) (looko ([2, 3].map fun n => (n, o n)))))) := rfl
@[instance] theorem g_show_same_c1_u : UnfAt (wpB C I g_show_same.c1 (St.mk s o) Q) g_show_same_c1_sh := Unf.of _
theorem g_show_same_l0_sh (hL : R_l0 = g_show_same.l0F R_c1)
 (h : demand (binV BinOp.lss (s 26) (s 25)) (fun x1 =>
condK x1
 (V.undef = V.undef ∧ (demand (faddrV 0 (s 2)) (fun x2 => quietV (looko ([2, 3].map fun n => (n, o n))) (x2 :: [(s 2)]) ∧
V.undef = V.undef ∧ (demand (loadV (looko ([2, 3].map fun n => (n, o n))) none x2) (fun x3 => quietV (looko ([2, 3].map fun n => (n, o n))) (x3 :: [x2]) ∧
V.undef = V.undef ∧ (quietV (looko ([2, 3].map fun n => (n, o n))) ((s 26) :: [(s 26)]) ∧
V.undef = V.undef ∧ (demand (iaddrV (looko ([2, 3].map fun n => (n, o n))) 3 x3 (s 26)) (fun x5 => quietV (looko ([2, 3].map fun n => (n, o n))) (x5 :: [x3, (s 26)]) ∧
V.undef = V.undef ∧ (demand (loadV (looko ([2, 3].map fun n => (n, o n))) (some 3) x5) (fun x6 => quietV (looko ([2, 3].map fun n => (n, o n))) (x6 :: [x5]) ∧
V.undef = V.undef ∧ (demand (faddrV 0 (s 3)) (fun x7 => quietV (looko ([2, 3].map fun n => (n, o n))) (x7 :: [(s 3)]) ∧
V.undef = V.undef ∧ (demand (loadV (looko ([2, 3].map fun n => (n, o n))) none x7) (fun x8 => quietV (looko ([2, 3].map fun n => (n, o n))) (x8 :: [x7]) ∧
V.undef = V.undef ∧ (quietV (looko ([2, 3].map fun n => (n, o n))) ((s 26) :: [(s 26)]) ∧
V.undef = V.undef ∧ (demand (iaddrV (looko ([2, 3].map fun n => (n, o n))) 3 x8 (s 26)) (fun x10 => quietV (looko ([2, 3].map fun n => (n, o n))) (x10 :: [x8, (s 26)]) ∧
V.undef = V.undef ∧ (demand (loadV (looko ([2, 3].map fun n => (n, o n))) (some 3) x10) (fun x11 => quietV (looko ([2, 3].map fun n => (n, o n))) (x11 :: [x10]) ∧
V.undef = V.undef ∧ (demand (eqsV true [2, 2, 0] x6 x11) (fun x12 => quietV (looko ([2, 3].map fun n => (n, o n))) (x12 :: [x6, x11]) ∧
condK x12
 (Q .ret (St.mk (look [(4, (V.d (.bool false)))]) (looko ([].map fun n => (n, o n)))))
 (wpB C I R_c1 (St.mk (look [(2, s 2), (3, s 3), (25, s 25), (26, s 26)]) (looko ([2, 3].map fun n => (n, o n)))) (seqK (fun s => wpB C I R_l0 s Q) Q)))))))))))))))))))))))
 (Q (.exit 0) (St.mk (look [(2, s 2), (3, s 3), (25, s 25), (26, s 26), (27, x1)]) (looko ([2, 3].map fun n => (n, o n))))))) : wpB C I R_l0 (St.mk s o) Q := w_loopC hL h
theorem g_show_same_c2_sh : wpB C I (g_show_same.c2F R_l0) (St.mk s o) Q =
 (wpB C I R_l0 (St.mk s o) (blockK 0 [2, 3] (some [2, 3]) Q)) := rfl
@[instance] theorem g_show_same_c2_u : UnfAt (wpB C I g_show_same.c2 (St.mk s o) Q) g_show_same_c2_sh := Unf.of _
theorem g_show_same_c3_sh : wpB C I (g_show_same.c3) (St.mk s o) Q =
 (demand (binV BinOp.add (s 44) (V.d (.int .i64 1))) (fun x1 =>
Q .normal (St.mk (look [(2, s 2), (3, s 3), (43, s 43), (44, x1)]) (looko ([2, 3].map fun n => (n, o n)))))) := rfl
@[instance] theorem g_show_same_c3_u : UnfAt (wpB C I g_show_same.c3 (St.mk s o) Q) g_show_same_c3_sh := Unf.of _
theorem g_show_same_l1_sh (hL : R_l1 = g_show_same.l1F R_c3)
 (h : demand (binV BinOp.lss (s 44) (s 43)) (fun x1 =>
condK x1
 (V.undef = V.undef ∧ (demand (faddrV 1 (s 2)) (fun x2 => quietV (looko ([2, 3].map fun n => (n, o n))) (x2 :: [(s 2)]) ∧
V.undef = V.undef ∧ (demand (loadV (looko ([2, 3].map fun n => (n, o n))) none x2) (fun x3 => quietV (looko ([2, 3].map fun n => (n, o n))) (x3 :: [x2]) ∧
V.undef = V.undef ∧ (quietV (looko ([2, 3].map fun n => (n, o n))) ((s 44) :: [(s 44)]) ∧
V.undef = V.undef ∧ (demand (iaddrV (looko ([2, 3].map fun n => (n, o n))) 6 x3 (s 44)) (fun x5 => quietV (looko ([2, 3].map fun n => (n, o n))) (x5 :: [x3, (s 44)]) ∧
V.undef = V.undef ∧ (demand (loadV (looko ([2, 3].map fun n => (n, o n))) (some 6) x5) (fun x6 => quietV (looko ([2, 3].map fun n => (n, o n))) (x6 :: [x5]) ∧
V.undef = V.undef ∧ (demand (faddrV 1 (s 3)) (fun x7 => quietV (looko ([2, 3].map fun n => (n, o n))) (x7 :: [(s 3)]) ∧
V.undef = V.undef ∧ (demand (loadV (looko ([2, 3].map fun n => (n, o n))) none x7) (fun x8 => quietV (looko ([2, 3].map fun n => (n, o n))) (x8 :: [x7]) ∧
V.undef = V.undef ∧ (quietV (looko ([2, 3].map fun n => (n, o n))) ((s 44) :: [(s 44)]) ∧
V.undef = V.undef ∧ (demand (iaddrV (looko ([2, 3].map fun n => (n, o n))) 6 x8 (s 44)) (fun x10 => quietV (looko ([2, 3].map fun n => (n, o n))) (x10 :: [x8, (s 44)]) ∧
V.undef = V.undef ∧ (demand (loadV (looko ([2, 3].map fun n => (n, o n))) (some 6) x10) (fun x11 => quietV (looko ([2, 3].map fun n => (n, o n))) (x11 :: [x10]) ∧
V.undef = V.undef ∧ (demand (eqsV true [2, 2, 0, 0, 0, 0] x6 x11) (fun x12 => quietV (looko ([2, 3].map fun n => (n, o n))) (x12 :: [x6, x11]) ∧
condK x12
 (Q .ret (St.mk (look [(4, (V.d (.bool false)))]) (looko ([].map fun n => (n, o n)))))
 (wpB C I R_c3 (St.mk (look [(2, s 2), (3, s 3), (43, s 43), (44, s 44)]) (looko ([2, 3].map fun n => (n, o n)))) (seqK (fun s => wpB C I R_l1 s Q) Q)))))))))))))))))))))))
 (Q (.exit 2) (St.mk (look [(2, s 2), (3, s 3), (43, s 43), (44, s 44), (45, x1)]) (looko ([2, 3].map fun n => (n, o n))))))) : wpB C I R_l1 (St.mk s o) Q := w_loopC hL h
theorem g_show_same_c4_sh : wpB C I (g_show_same.c4F R_l1) (St.mk s o) Q =
 (wpB C I R_l1 (St.mk s o) (blockK 2 [] (some []) Q)) := rfl
@[instance] theorem g_show_same_c4_u : UnfAt (wpB C I g_show_same.c4 (St.mk s o) Q) g_show_same_c4_sh := Unf.of _
theorem g_show_same_c5_sh : wpB C I (g_show_same.c5) (St.mk s o) Q =
 (Q .ret (St.mk (look [(4, (V.d (.bool true)))]) (looko ([].map fun n => (n, o n))))) := rfl
@[instance] theorem g_show_same_c5_u : UnfAt (wpB C I g_show_same.c5 (St.mk s o) Q) g_show_same_c5_sh := Unf.of _
theorem g_show_same_c6_sh : wpB C I (g_show_same.c6F R_c4 R_c5) (St.mk s o) Q =
 (demand (faddrV 1 (s 2)) (fun x1 =>
demand (loadV o none x1) (fun x2 =>
demand (lenV o x2) (fun x3 =>
wpB C I R_c4 (St.mk (look [(2, s 2), (3, s 3), (43, x3), (44, (V.d (.int .i64 0)))]) (looko ([2, 3].map fun n => (n, o n)))) (seqK (fun st => wpB C I R_c5 st Q) Q))))) := rfl
@[instance] theorem g_show_same_c6_u : UnfAt (wpB C I g_show_same.c6 (St.mk s o) Q) g_show_same_c6_sh := Unf.of _
theorem g_show_same_c7_sh : wpB C I (g_show_same.c7F R_c2 R_c6) (St.mk s o) Q =
 (demand (faddrV 0 (s 2)) (fun x1 =>
demand (loadV o none x1) (fun x2 =>
demand (lenV o x2) (fun x3 =>
wpB C I R_c2 (St.mk (look [(2, s 2), (3, s 3), (25, x3), (26, (V.d (.int .i64 0)))]) (looko ([2, 3].map fun n => (n, o n)))) (seqK (fun st => wpB C I R_c6 st Q) Q))))) := rfl
@[instance] theorem g_show_same_c7_u : UnfAt (wpB C I g_show_same.c7 (St.mk s o) Q) g_show_same_c7_sh := Unf.of _
theorem g_show_same_code_sh : wpB C I (g_show_same.codeF R_o0 R_c0 R_c7) (St.mk s o) Q =
 (lstK (cellsV (s 0)) (fun c1 => c1.length = 2 ∧ ¬ I 2 ∧ Fresh (St.mk s o) 2 (some 2) ∧ V.refsL 2 c1 = false ∧
lstK (cellsV (s 1)) (fun c2 => c2.length = 2 ∧ ¬ I 3 ∧ Fresh (St.mk (upd s 2 (V.ptr 2 0)) (upd o 2 (some (Ob.box c1)))) 3 (some 3) ∧ V.refsL 3 c2 = false ∧
demand (faddrV 0 (V.ptr 2 0)) (fun x3 =>
demand (loadV (looko ([2, 3].map fun n => (n, (upd (upd o 2 (some (Ob.box c1))) 3 (some (Ob.box c2))) n))) none x3) (fun x4 =>
demand (lenV (looko ([2, 3].map fun n => (n, (upd (upd o 2 (some (Ob.box c1))) 3 (some (Ob.box c2))) n))) x4) (fun x5 =>
demand (faddrV 0 (V.ptr 3 0)) (fun x6 =>
demand (loadV (looko ([2, 3].map fun n => (n, (upd (upd o 2 (some (Ob.box c1))) 3 (some (Ob.box c2))) n))) none x6) (fun x7 =>
demand (lenV (looko ([2, 3].map fun n => (n, (upd (upd o 2 (some (Ob.box c1))) 3 (some (Ob.box c2))) n))) x7) (fun x8 =>
demand (binV BinOp.neq x5 x8) (fun x9 =>
opsB C I R_o0 (St.mk (look [(2, (V.ptr 2 0)), (3, (V.ptr 3 0)), (14, x9)]) (looko ([2, 3].map fun n => (n, (upd (upd o 2 (some (Ob.box c1))) 3 (some (Ob.box c2))) n)))) (fun st => (seqK (fun st => wpB C I R_c0 st (seqK (fun st => wpB C I R_c7 st Q) Q)) (seqK (fun st => wpB C I R_c7 st Q) Q)) .normal (St.trim st [2, 3, 22] (some [2, 3]))))))))))))) := rfl
@[instance] theorem g_show_same_code_u : UnfAt (wpB C I g_show_same.code (St.mk s o) Q) g_show_same_code_sh := Unf.of _
theorem g_show_write_o1_sh : opsB C I (g_show_write.o1) (St.mk s o) K =
 (demand (pickV (s 20) (s 22) (V.d (.bool false))) (fun x1 =>
K (St.mk (upd s 23 x1) o))) := rfl
@[instance] theorem g_show_write_o1_u : UnfAt (opsB C I g_show_write.o1 (St.mk s o) K) g_show_write_o1_sh := Unf.of _
theorem g_show_write_o0_sh : opsB C I (g_show_write.o0F R_o1) (St.mk s o) K =
 (guardK (s 20) true
 (demand (binV BinOp.geq (s 7) (V.d (.int .i64 0))) (fun x1 =>
opsB C I R_o1 (St.mk (look [(2, s 2), (5, s 5), (6, s 6), (7, s 7), (20, (V.d (D.bool true))), (22, x1)]) (looko ([2, 5, 13, 50, 58, 60, 63, 68, 505].map fun n => (n, o n)))) K))
 (opsB C I R_o1 (St.mk (look [(2, s 2), (5, s 5), (6, s 6), (7, s 7), (20, (V.d (D.bool false))), (22, (V.tup []))]) (looko ([2, 5, 13, 50, 58, 60, 63, 68, 505].map fun n => (n, o n)))) K)
 (opsB C I R_o1 (St.mk (look [(2, s 2), (5, s 5), (6, s 6), (7, s 7), (20, (V.tup [])), (22, (V.tup []))]) (looko ([2, 5, 13, 50, 58, 60, 63, 68, 505].map fun n => (n, o n)))) K)) := rfl
@[instance] theorem g_show_write_o0_u : UnfAt (opsB C I g_show_write.o0 (St.mk s o) K) g_show_write_o0_sh := Unf.of _
theorem g_show_write_c0_sh : wpB C I (g_show_write.c0) (St.mk s o) Q =
 (condK (s 23)
 (Q .normal (St.mk s o))
 (Q (.exit 0) (St.mk s o))) := rfl
@[instance] theorem g_show_write_c0_u : UnfAt (wpB C I g_show_write.c0 (St.mk s o) Q) g_show_write_c0_sh := Unf.of _
theorem g_show_write_c1_sh : wpB C I (g_show_write.c1) (St.mk s o) Q =
 (callK C I (St.mk (upd s 64 (s 10)) o) (some 65) 212 [(s 10)] (fun r1 or1 =>
lstK (readD (looko ([2, 5, 13, 50, 58, 60, 63, 68, 505].map fun n => (n, or1 n))) (s 10)) (fun ys2 => (∀ e ∈ ys2, e.length = 3) ∧ appK (s 6)
 (ys2.length * 32 ≤ 140737488355328 ∧ ys2.length ≤ 140737488355328 ∧ ¬ I 68 ∧ Fresh (St.mk (upd (upd (look [(2, s 2), (5, s 5), (6, s 6), (7, s 7), (10, s 10)]) 66 (s 6)) 67 (s 10)) (looko ([2, 5, 13, 50, 58, 60, 63, 68, 505].map fun n => (n, or1 n)))) 68 (some 68) ∧
Q .normal (St.mk (look [(2, s 2), (5, s 5), (6, (V.own 68)), (7, s 7)]) (looko ([2, 5, 13, 50, 58, 60, 63, 68, 505].map fun n => (n, (upd (looko ([2, 5, 13, 50, 58, 60, 63, 68, 505].map fun n => (n, or1 n))) 68 (some (Ob.row 3 ys2))) n)))))
 (fun m3 => ¬ I m3 ∧ rowK ((looko ([2, 5, 13, 50, 58, 60, 63, 68, 505].map fun n => (n, or1 n))) m3) (fun z4 es5 => z4 = 3 ∧ (es5.length + ys2.length) * 32 ≤ 140737488355328 ∧ es5.length + ys2.length ≤ 140737488355328 ∧
Q .normal (St.mk (look [(2, (scrubV m3 (s 2))), (5, (scrubV m3 (s 5))), (6, (V.own m3)), (7, (scrubV m3 (s 7)))]) (looko ([2, 5, 13, 50, 58, 60, 63, 68, 505].map fun n => (n, (upd (fun n => ((looko ([2, 5, 13, 50, 58, 60, 63, 68, 505].map fun n => (n, or1 n))) n).map (Ob.scrub m3)) m3 (some (Ob.row 3 (es5 ++ ys2)))) n))))))))) := rfl
@[instance] theorem g_show_write_c1_u : UnfAt (wpB C I g_show_write.c1 (St.mk s o) Q) g_show_write_c1_sh := Unf.of _
theorem g_show_write_c2_sh : wpB C I (g_show_write.c2F R_c1) (St.mk s o) Q =
 (demand (loadV o (some 6) (s 9)) (fun x1 =>
callK C I (St.mk (upd s 49 x1) o) (some 50) 210 [x1] (fun r2 or2 =>
V.undef = V.undef ∧ (demand (faddrV 0 (s 9)) (fun x3 => quietV (looko ([2, 5, 8, 9, 13, 50, 58, 60, 63, 68, 505].map fun n => (n, or2 n))) (x3 :: [(s 9)]) ∧
V.undef = V.undef ∧ (demand (loadV (looko ([2, 5, 8, 9, 13, 50, 58, 60, 63, 68, 505].map fun n => (n, or2 n))) none x3) (fun x4 => quietV (looko ([2, 5, 8, 9, 13, 50, 58, 60, 63, 68, 505].map fun n => (n, or2 n))) (x4 :: [x3]) ∧
V.undef = V.undef ∧ (∃ x5, SoundAt C 211 ⟨[x4], fun _ => none⟩ ⟨x5, fun _ => none⟩ ∧ (∀ n, V.refs n x5 = false) ∧ quietV (looko ([2, 5, 8, 9, 13, 50, 58, 60, 63, 68, 505].map fun n => (n, or2 n))) (x5 :: [x4]) ∧
V.undef = V.undef ∧ (demand (faddrV 2 (s 8)) (fun x6 => quietV (looko ([2, 5, 8, 9, 13, 50, 58, 60, 63, 68, 505].map fun n => (n, or2 n))) (x6 :: [(s 8)]) ∧
V.undef = V.undef ∧ (demand (loadV (looko ([2, 5, 8, 9, 13, 50, 58, 60, 63, 68, 505].map fun n => (n, or2 n))) none x6) (fun x7 => quietV (looko ([2, 5, 8, 9, 13, 50, 58, 60, 63, 68, 505].map fun n => (n, or2 n))) (x7 :: [x6]) ∧
V.undef = V.undef ∧ (demand (binV BinOp.lss x5 x7) (fun x8 => quietV (looko ([2, 5, 8, 9, 13, 50, 58, 60, 63, 68, 505].map fun n => (n, or2 n))) (x8 :: [x5, x7]) ∧
condK x8
 (demand ((buildN [V.d (.str []), V.d (.int .i64 0), V.d (.int .i64 0)] [(0, 1, (V.d (.str [40])))]).map V.agg) (fun x9 =>
lstK (partsN 3 [x9]) (fun es10 => ¬ I 58 ∧ Fresh (St.mk (upd (look [(2, s 2), (5, s 5), (6, s 6), (7, s 7), (10, r2), (56, x8)]) 57 x9) (looko ([2, 5, 13, 50, 58, 60, 63, 68, 505].map fun n => (n, or2 n)))) 58 (some 58) ∧
lstK (readD (upd (looko ([2, 5, 13, 50, 58, 60, 63, 68, 505].map fun n => (n, or2 n))) 58 (some (Ob.row 3 es10))) r2) (fun ys11 => (∀ e ∈ ys11, e.length = 3) ∧ appK (V.own 58)
 (ys11.length * 32 ≤ 140737488355328 ∧ ys11.length ≤ 140737488355328 ∧ ¬ I 60 ∧ Fresh (St.mk (upd (upd (upd (look [(2, s 2), (5, s 5), (6, s 6), (7, s 7), (10, r2), (56, x8)]) 57 x9) 58 (V.own 58)) 59 r2) (upd (looko ([2, 5, 13, 50, 58, 60, 63, 68, 505].map fun n => (n, or2 n))) 58 (some (Ob.row 3 es10)))) 60 (some 60) ∧
demand ((buildN [V.d (.str []), V.d (.int .i64 0), V.d (.int .i64 0)] [(0, 1, (V.d (.str [41])))]).map V.agg) (fun x16 =>
lstK (partsN 3 [x16]) (fun es17 =>
lstK (readD (upd (upd (looko ([2, 5, 13, 50, 58, 60, 63, 68, 505].map fun n => (n, or2 n))) 58 (some (Ob.row 3 es10))) 60 (some (Ob.row 3 ys11))) (V.d (D.sl es17))) (fun ys18 => (∀ e ∈ ys18, e.length = 3) ∧ appK (V.own 60)
 (ys18.length * 32 ≤ 140737488355328 ∧ ys18.length ≤ 140737488355328 ∧ ¬ I 63 ∧ Fresh (St.mk (upd (upd (upd (upd (upd (upd (look [(2, s 2), (5, s 5), (6, s 6), (7, s 7), (10, r2), (56, x8)]) 57 x9) 58 (V.own 58)) 59 r2) 60 (V.own 60)) 61 x16) 62 (V.d (D.sl es17))) (upd (upd (looko ([2, 5, 13, 50, 58, 60, 63, 68, 505].map fun n => (n, or2 n))) 58 (some (Ob.row 3 es10))) 60 (some (Ob.row 3 ys11)))) 63 (some 63) ∧
wpB C I R_c1 (St.mk (look [(2, s 2), (5, s 5), (6, s 6), (7, s 7), (10, (V.own 63))]) (looko ([2, 5, 13, 50, 58, 60, 63, 68, 505].map fun n => (n, (upd (upd (upd (looko ([2, 5, 13, 50, 58, 60, 63, 68, 505].map fun n => (n, or2 n))) 58 (some (Ob.row 3 es10))) 60 (some (Ob.row 3 ys11))) 63 (some (Ob.row 3 ys18))) n)))) Q)
 (fun m19 => ¬ I m19 ∧ rowK ((upd (upd (looko ([2, 5, 13, 50, 58, 60, 63, 68, 505].map fun n => (n, or2 n))) 58 (some (Ob.row 3 es10))) 60 (some (Ob.row 3 ys11))) m19) (fun z20 es21 => z20 = 3 ∧ (es21.length + ys18.length) * 32 ≤ 140737488355328 ∧ es21.length + ys18.length ≤ 140737488355328 ∧
wpB C I R_c1 (St.mk (look [(2, (scrubV m19 (s 2))), (5, (scrubV m19 (s 5))), (6, (scrubV m19 (s 6))), (7, (scrubV m19 (s 7))), (10, (V.own m19))]) (looko ([2, 5, 13, 50, 58, 60, 63, 68, 505].map fun n => (n, (upd (fun n => ((upd (upd (looko ([2, 5, 13, 50, 58, 60, 63, 68, 505].map fun n => (n, or2 n))) 58 (some (Ob.row 3 es10))) 60 (some (Ob.row 3 ys11))) n).map (Ob.scrub m19)) m19 (some (Ob.row 3 (es21 ++ ys18)))) n)))) Q))))))
 (fun m12 => ¬ I m12 ∧ rowK ((upd (looko ([2, 5, 13, 50, 58, 60, 63, 68, 505].map fun n => (n, or2 n))) 58 (some (Ob.row 3 es10))) m12) (fun z13 es14 => z13 = 3 ∧ (es14.length + ys11.length) * 32 ≤ 140737488355328 ∧ es14.length + ys11.length ≤ 140737488355328 ∧
demand ((buildN [V.d (.str []), V.d (.int .i64 0), V.d (.int .i64 0)] [(0, 1, (V.d (.str [41])))]).map V.agg) (fun x23 =>
lstK (partsN 3 [x23]) (fun es24 =>
lstK (readD (upd (fun n => ((upd (looko ([2, 5, 13, 50, 58, 60, 63, 68, 505].map fun n => (n, or2 n))) 58 (some (Ob.row 3 es10))) n).map (Ob.scrub m12)) m12 (some (Ob.row 3 (es14 ++ ys11)))) (V.d (D.sl es24))) (fun ys25 => (∀ e ∈ ys25, e.length = 3) ∧ appK (V.own m12)
 (ys25.length * 32 ≤ 140737488355328 ∧ ys25.length ≤ 140737488355328 ∧ ¬ I 63 ∧ Fresh (St.mk (upd (upd (upd (fun t => scrubV m12 ((upd (upd (upd (look [(2, s 2), (5, s 5), (6, s 6), (7, s 7), (10, r2), (56, x8)]) 57 x9) 58 (V.own 58)) 59 r2) t)) 60 (V.own m12)) 61 x23) 62 (V.d (D.sl es24))) (upd (fun n => ((upd (looko ([2, 5, 13, 50, 58, 60, 63, 68, 505].map fun n => (n, or2 n))) 58 (some (Ob.row 3 es10))) n).map (Ob.scrub m12)) m12 (some (Ob.row 3 (es14 ++ ys11))))) 63 (some 63) ∧
wpB C I R_c1 (St.mk (look [(2, (scrubV m12 (s 2))), (5, (scrubV m12 (s 5))), (6, (scrubV m12 (s 6))), (7, (scrubV m12 (s 7))), (10, (V.own 63))]) (looko ([2, 5, 13, 50, 58, 60, 63, 68, 505].map fun n => (n, (upd (upd (fun n => ((upd (looko ([2, 5, 13, 50, 58, 60, 63, 68, 505].map fun n => (n, or2 n))) 58 (some (Ob.row 3 es10))) n).map (Ob.scrub m12)) m12 (some (Ob.row 3 (es14 ++ ys11)))) 63 (some (Ob.row 3 ys25))) n)))) Q)
 (fun m26 => ¬ I m26 ∧ rowK ((upd (fun n => ((upd (looko ([2, 5, 13, 50, 58, 60, 63, 68, 505].map fun n => (n, or2 n))) 58 (some (Ob.row 3 es10))) n).map (Ob.scrub m12)) m12 (some (Ob.row 3 (es14 ++ ys11)))) m26) (fun z27 es28 => z27 = 3 ∧ (es28.length + ys25.length) * 32 ≤ 140737488355328 ∧ es28.length + ys25.length ≤ 140737488355328 ∧
wpB C I R_c1 (St.mk (look [(2, (scrubV m26 (scrubV m12 (s 2)))), (5, (scrubV m26 (scrubV m12 (s 5)))), (6, (scrubV m26 (scrubV m12 (s 6)))), (7, (scrubV m26 (scrubV m12 (s 7)))), (10, (V.own m26))]) (looko ([2, 5, 13, 50, 58, 60, 63, 68, 505].map fun n => (n, (upd (fun n => ((upd (fun n => ((upd (looko ([2, 5, 13, 50, 58, 60, 63, 68, 505].map fun n => (n, or2 n))) 58 (some (Ob.row 3 es10))) n).map (Ob.scrub m12)) m12 (some (Ob.row 3 (es14 ++ ys11)))) n).map (Ob.scrub m26)) m26 (some (Ob.row 3 (es28 ++ ys25)))) n)))) Q)))))))))))
 (wpB C I R_c1 (St.mk (look [(2, s 2), (5, s 5), (6, s 6), (7, s 7), (10, r2), (56, x8)]) (looko ([2, 5, 13, 50, 58, 60, 63, 68, 505].map fun n => (n, or2 n)))) Q))))))))))))))) := rfl
@[instance] theorem g_show_write_c2_u : UnfAt (wpB C I g_show_write.c2 (St.mk s o) Q) g_show_write_c2_sh := Unf.of _
theorem g_show_write_c3_sh : wpB C I (g_show_write.c3F R_c2) (St.mk s o) Q =
 (demand (binV BinOp.sub (s 7) (V.d (.int .i64 1))) (fun x1 =>
demand (faddrV 1 (s 2)) (fun x2 =>
demand (loadV (looko ([2, 5, 8, 13, 50, 58, 60, 63, 68, 505].map fun n => (n, o n))) none x2) (fun x3 =>
demand (faddrV 1 (s 8)) (fun x4 =>
demand (loadV (looko ([2, 5, 8, 13, 50, 58, 60, 63, 68, 505].map fun n => (n, o n))) none x4) (fun x5 =>
demand (iaddrV (looko ([2, 5, 8, 13, 50, 58, 60, 63, 68, 505].map fun n => (n, o n))) 6 x3 x5) (fun x6 =>
demand (loadV (looko ([2, 5, 8, 13, 50, 58, 60, 63, 68, 505].map fun n => (n, o n))) (some 6) x6) (fun x7 =>
(¬ I 9 ∧ Fresh (St.mk (upd (upd (upd (upd (upd (upd (look [(2, s 2), (5, s 5), (6, s 6), (7, x1), (8, s 8)]) 43 x2) 44 x3) 45 x4) 46 x5) 47 x6) 48 x7) (looko ([2, 5, 8, 13, 50, 58, 60, 63, 68, 505].map fun n => (n, o n)))) 9 (some 9) ∧ V.refsL 9 [V.d (.str []), V.d (.str []), V.d (.int .i64 0), V.d (.int .i64 0), V.d (.int .i64 0), V.d (.int .i64 0)] = false ∧
storeK (V.ptr 9 0) (cellsV x7) 6 (upd (looko ([2, 5, 8, 13, 50, 58, 60, 63, 68, 505].map fun n => (n, o n))) 9 (some (Ob.box [V.d (.str []), V.d (.str []), V.d (.int .i64 0), V.d (.int .i64 0), V.d (.int .i64 0), V.d (.int .i64 0)]))) (fun m8 ob9 =>
wpB C I R_c2 (St.mk (look [(2, s 2), (5, s 5), (6, s 6), (7, x1), (8, s 8), (9, (V.ptr 9 0))]) (looko ([2, 5, 8, 9, 13, 50, 58, 60, 63, 68, 505].map fun n => (n, (upd (upd (looko ([2, 5, 8, 13, 50, 58, 60, 63, 68, 505].map fun n => (n, o n))) 9 (some (Ob.box [V.d (.str []), V.d (.str []), V.d (.int .i64 0), V.d (.int .i64 0), V.d (.int .i64 0), V.d (.int .i64 0)]))) m8 (some ob9)) n)))) Q)))))))))) := rfl
@[instance] theorem g_show_write_c3_u : UnfAt (wpB C I g_show_write.c3 (St.mk s o) Q) g_show_write_c3_sh := Unf.of _
theorem g_show_write_c4_sh : wpB C I (g_show_write.c4F R_c3) (St.mk s o) Q =
 (demand (faddrV 0 (s 8)) (fun x1 =>
demand (loadV o none x1) (fun x2 =>
demand (binV BinOp.neq x2 (V.d (.str []))) (fun x3 =>
condK x3
 (demand (faddrV 0 (s 8)) (fun x4 =>
demand (loadV (looko ([2, 5, 8, 13, 50, 58, 60, 63, 68, 505].map fun n => (n, o n))) none x4) (fun x5 =>
callK C I (St.mk (upd (upd (look [(2, s 2), (5, s 5), (6, s 6), (7, s 7), (8, s 8), (37, x3)]) 38 x4) 39 x5) (looko ([2, 5, 8, 13, 50, 58, 60, 63, 68, 505].map fun n => (n, o n)))) (some 40) 128 [(s 5), x5] (fun r6 or6 =>
Q (.exit 1) (St.mk (look [(2, s 2), (5, s 5), (6, s 6), (7, s 7)]) (looko ([2, 5, 13, 50, 58, 60, 63, 68, 505].map fun n => (n, or6 n))))))))
 (wpB C I R_c3 (St.mk (look [(2, s 2), (5, s 5), (6, s 6), (7, s 7), (8, s 8), (37, x3)]) (looko ([2, 5, 8, 13, 50, 58, 60, 63, 68, 505].map fun n => (n, o n)))) Q))))) := rfl
@[instance] theorem g_show_write_c4_u : UnfAt (wpB C I g_show_write.c4 (St.mk s o) Q) g_show_write_c4_sh := Unf.of _
theorem g_show_write_c5_sh : wpB C I (g_show_write.c5F R_c4) (St.mk s o) Q =
 (demand (lenV o (s 6)) (fun x1 =>
demand (binV BinOp.sub x1 (V.d (.int .i64 1))) (fun x2 =>
appK (s 6) False (fun m3 => ¬ I m3 ∧ rowK (o m3) (fun z4 es5 => bndK (bnd es5.length x2) (fun h6 =>
wpB C I R_c4 (St.mk (look [(2, ((fun t => scrubV m3 (s t)) 2)), (5, ((fun t => scrubV m3 (s t)) 5)), (6, (V.own m3)), (7, ((fun t => scrubV m3 (s t)) 7)), (8, ((fun t => scrubV m3 (s t)) 8))]) (looko ([2, 5, 8, 13, 50, 58, 60, 63, 68, 505].map fun n => (n, (upd (fun n => (o n).map (Ob.scrub m3)) m3 (some (Ob.row z4 (es5.take h6)))) n)))) Q)))))) := rfl
@[instance] theorem g_show_write_c5_u : UnfAt (wpB C I g_show_write.c5 (St.mk s o) Q) g_show_write_c5_sh := Unf.of _
theorem g_show_write_c6_sh : wpB C I (g_show_write.c6F R_c5) (St.mk s o) Q =
 (demand (lenV o (s 6)) (fun x1 =>
demand (binV BinOp.sub x1 (V.d (.int .i64 1))) (fun x2 =>
demand (iaddrV o 3 (s 6) x2) (fun x3 =>
demand (loadV o (some 3) x3) (fun x4 =>
(¬ I 8 ∧ Fresh (St.mk (upd (upd (upd (upd (upd (upd s 24 (s 6)) 25 (s 6)) 26 x1) 27 x2) 28 x3) 29 x4) o) 8 (some 8) ∧ V.refsL 8 [V.d (.str []), V.d (.int .i64 0), V.d (.int .i64 0)] = false ∧
storeK (V.ptr 8 0) (cellsV x4) 3 (upd o 8 (some (Ob.box [V.d (.str []), V.d (.int .i64 0), V.d (.int .i64 0)]))) (fun m5 ob6 =>
wpB C I R_c5 (St.mk (look [(2, s 2), (5, s 5), (6, s 6), (7, s 7), (8, (V.ptr 8 0))]) (looko ([2, 5, 8, 13, 50, 58, 60, 63, 68, 505].map fun n => (n, (upd (upd o 8 (some (Ob.box [V.d (.str []), V.d (.int .i64 0), V.d (.int .i64 0)]))) m5 (some ob6)) n)))) (blockK 1 [2, 5, 6, 7] (some [2, 5, 13, 50, 58, 60, 63, 68, 505]) Q)))))))) := rfl
@[instance] theorem g_show_write_c6_u : UnfAt (wpB C I g_show_write.c6 (St.mk s o) Q) g_show_write_c6_sh := Unf.of _
theorem g_show_write_l0_sh (hL : R_l0 = g_show_write.l0F R_o0 R_c0 R_c6)
 (h : demand (lenV (looko ([2, 5, 13, 50, 58, 60, 63, 68, 505].map fun n => (n, o n))) (s 6)) (fun x1 =>
demand (binV BinOp.gtr x1 (V.d (.int .i64 0))) (fun x2 =>
opsB C I R_o0 (St.mk (look [(2, s 2), (5, s 5), (6, s 6), (7, s 7), (20, x2)]) (looko ([2, 5, 13, 50, 58, 60, 63, 68, 505].map fun n => (n, o n)))) (fun st => (seqK (fun st => wpB C I R_c0 st (seqK (fun st => wpB C I R_c6 st (seqK (fun s => wpB C I R_l0 s Q) Q)) (seqK (fun s => wpB C I R_l0 s Q) Q))) (seqK (fun st => wpB C I R_c6 st (seqK (fun s => wpB C I R_l0 s Q) Q)) (seqK (fun s => wpB C I R_l0 s Q) Q))) .normal (St.trim st [2, 5, 6, 7, 23] (some [2, 5, 13, 50, 58, 60, 63, 68, 505])))))) : wpB C I R_l0 (St.mk s o) Q := w_loopC hL h
theorem g_show_write_c7_sh : wpB C I (g_show_write.c7F R_l0) (St.mk s o) Q =
 (wpB C I R_l0 (St.mk s o) (blockK 0 [5] (some [5, 505]) Q)) := rfl
@[instance] theorem g_show_write_c7_u : UnfAt (wpB C I g_show_write.c7 (St.mk s o) Q) g_show_write_c7_sh := Unf.of _
theorem g_show_write_c8_sh : wpB C I (g_show_write.c8) (St.mk s o) Q =
 (callK C I (St.mk s o) (some 69) 130 [(s 5)] (fun r1 or1 =>
Q .ret (St.mk (look [(4, r1)]) (looko ([].map fun n => (n, or1 n)))))) := rfl
@[instance] theorem g_show_write_c8_u : UnfAt (wpB C I g_show_write.c8 (St.mk s o) Q) g_show_write_c8_sh := Unf.of _
theorem g_show_write_c9_sh : wpB C I (g_show_write.c9F R_c7 R_c8) (St.mk s o) Q =
 (demand (faddrV 1 (s 2)) (fun x1 =>
demand (loadV o none x1) (fun x2 =>
demand (lenV o x2) (fun x3 =>
wpB C I R_c7 (St.mk (look [(2, s 2), (5, s 5), (6, s 6), (7, x3)]) (looko ([2, 5, 13, 50, 58, 60, 63, 68, 505].map fun n => (n, o n)))) (seqK (fun st => wpB C I R_c8 st Q) Q))))) := rfl
@[instance] theorem g_show_write_c9_u : UnfAt (wpB C I g_show_write.c9 (St.mk s o) Q) g_show_write_c9_sh := Unf.of _
theorem g_show_write_code_sh : wpB C I (g_show_write.codeF R_c9) (St.mk s o) Q =
 (lstK (cellsV (s 0)) (fun c1 => c1.length = 2 ∧ ¬ I 2 ∧ Fresh (St.mk s o) 2 (some 2) ∧ V.refsL 2 c1 = false ∧
(¬ I 5 ∧ ¬ I 505 ∧ 505 ≠ 5 ∧ Fresh (St.mk (look [(1, s 1), (2, (V.ptr 2 0))]) (looko ([2].map fun n => (n, (upd o 2 (some (Ob.box c1))) n)))) 505 none ∧ Fresh (St.mk (look [(1, s 1), (2, (V.ptr 2 0))]) (looko ([2].map fun n => (n, (upd o 2 (some (Ob.box c1))) n)))) 5 (some 5) ∧
demand ((buildN [V.d (.str []), V.d (.int .i64 0), V.d (.int .i64 0)] [(1, 1, (s 1))]).map V.agg) (fun x2 =>
lstK (partsN 3 [x2]) (fun es3 => ¬ I 13 ∧ Fresh (St.mk (upd (upd (look [(1, s 1), (2, (V.ptr 2 0)), (5, (V.ptr 5 0))]) 11 (s 1)) 12 x2) (looko ([2, 5, 505].map fun n => (n, (upd (upd (looko ([2].map fun n => (n, (upd o 2 (some (Ob.box c1))) n))) 505 (some (Ob.brow []))) 5 (some (Ob.bld 505))) n)))) 13 (some 13) ∧
wpB C I R_c9 (St.mk (look [(2, (V.ptr 2 0)), (5, (V.ptr 5 0)), (6, (V.own 13))]) (looko ([2, 5, 13, 50, 58, 60, 63, 68, 505].map fun n => (n, (upd (looko ([2, 5, 505].map fun n => (n, (upd (upd (looko ([2].map fun n => (n, (upd o 2 (some (Ob.box c1))) n))) 505 (some (Ob.brow []))) 5 (some (Ob.bld 505))) n))) 13 (some (Ob.row 3 es3))) n)))) Q))))) := rfl
@[instance] theorem g_show_write_code_u : UnfAt (wpB C I g_show_write.code (St.mk s o) Q) g_show_write_code_sh := Unf.of _
theorem g_lex_run_o1_sh : opsB C I (g_lex_run.o1) (St.mk s o) K =
 (demand (pickV (s 13) (s 18) (V.d (.bool false))) (fun x1 =>
K (St.mk (upd s 19 x1) o))) := rfl
@[instance] theorem g_lex_run_o1_u : UnfAt (opsB C I g_lex_run.o1 (St.mk s o) K) g_lex_run_o1_sh := Unf.of _
theorem g_lex_run_o0_sh : opsB C I (g_lex_run.o0F R_o1) (St.mk s o) K =
 (guardK (s 13) true
 (demand (idxV (s 0) (s 7)) (fun x1 =>
fnK (s 2) (fun f3 cs4 => callK C I (St.mk (upd (upd (upd (upd (upd (upd (upd (upd (upd s 13 (V.d (D.bool true))) 14 (s 2)) 13 (V.d (D.bool true))) 15 (s 0)) 13 (V.d (D.bool true))) 16 (s 7)) 13 (V.d (D.bool true))) 17 x1) 13 (V.d (D.bool true))) o) (some 18) f3 ([x1] ++ cs4) (fun r2 or2 =>
opsB C I R_o1 (St.mk (look [(0, s 0), (1, s 1), (2, s 2), (7, s 7), (13, (V.d (D.bool true))), (18, r2)]) or2) K))))
 (opsB C I R_o1 (St.mk (look [(0, s 0), (1, s 1), (2, s 2), (7, s 7), (13, (V.d (D.bool false))), (18, (V.tup []))]) o) K)
 (opsB C I R_o1 (St.mk (look [(0, s 0), (1, s 1), (2, s 2), (7, s 7), (13, (V.tup [])), (18, (V.tup []))]) o) K)) := rfl
@[instance] theorem g_lex_run_o0_u : UnfAt (opsB C I g_lex_run.o0 (St.mk s o) K) g_lex_run_o0_sh := Unf.of _
theorem g_lex_run_c0_sh : wpB C I (g_lex_run.c0) (St.mk s o) Q =
 (condK (s 19)
 (Q .normal (St.mk s o))
 (Q (.exit 0) (St.mk s o))) := rfl
@[instance] theorem g_lex_run_c0_u : UnfAt (wpB C I g_lex_run.c0 (St.mk s o) Q) g_lex_run_c0_sh := Unf.of _
theorem g_lex_run_c1_sh : wpB C I (g_lex_run.c1) (St.mk s o) Q =
 (demand (binV BinOp.add (s 7) (V.d (.int .i64 1))) (fun x1 =>
Q .normal (St.mk (look [(0, s 0), (1, s 1), (2, s 2), (7, x1)]) o))) := rfl
@[instance] theorem g_lex_run_c1_u : UnfAt (wpB C I g_lex_run.c1 (St.mk s o) Q) g_lex_run_c1_sh := Unf.of _
theorem g_lex_run_l0_sh (hL : R_l0 = g_lex_run.l0F R_o0 R_c0 R_c1)
 (h : demand (lenSV (s 0)) (fun x1 =>
demand (binV BinOp.lss (s 7) x1) (fun x2 =>
opsB C I R_o0 (St.mk (look [(0, s 0), (1, s 1), (2, s 2), (7, s 7), (13, x2)]) o) (fun st => (seqK (fun st => wpB C I R_c0 st (seqK (fun st => wpB C I R_c1 st (seqK (fun s => wpB C I R_l0 s Q) Q)) (seqK (fun s => wpB C I R_l0 s Q) Q))) (seqK (fun st => wpB C I R_c1 st (seqK (fun s => wpB C I R_l0 s Q) Q)) (seqK (fun s => wpB C I R_l0 s Q) Q))) .normal (St.trim st [0, 1, 2, 7, 19] none))))) : wpB C I R_l0 (St.mk s o) Q := w_loopC hL h
theorem g_lex_run_c2_sh : wpB C I (g_lex_run.c2) (St.mk s o) Q =
 (demand (binV BinOp.sub (s 7) (s 1)) (fun x1 =>
Q .ret (St.mk (look [(6, x1)]) o))) := rfl
@[instance] theorem g_lex_run_c2_u : UnfAt (wpB C I g_lex_run.c2 (St.mk s o) Q) g_lex_run_c2_sh := Unf.of _
theorem g_lex_run_code_sh : wpB C I (g_lex_run.codeF R_l0 R_c2) (St.mk s o) Q =
 (wpB C I R_l0 (St.mk (look [(0, s 0), (1, s 1), (2, s 2), (7, s 1)]) o) (blockK 0 [1, 7] none (seqK (fun st => wpB C I R_c2 st Q) Q))) := rfl
@[instance] theorem g_lex_run_code_u : UnfAt (wpB C I g_lex_run.code (St.mk s o) Q) g_lex_run_code_sh := Unf.of _
theorem g_lex_All_1_code_sh : wpB C I (g_lex_All_1.code) (St.mk s o) Q =
 (demand (binV BinOp.neq (s 0) (V.d (.int .u8 10))) (fun x1 =>
Q .ret (St.mk (look [(2, x1)]) (looko ([].map fun n => (n, o n)))))) := rfl
@[instance] theorem g_lex_All_1_code_u : UnfAt (wpB C I g_lex_All_1.code (St.mk s o) Q) g_lex_All_1_code_sh := Unf.of _
theorem g_lex_one_c0_sh : wpB C I (g_lex_one.c0) (St.mk s o) Q =
 (Q .ret (St.mk (look [(4, (V.d (.int .i64 1))), (5, s 7)]) (looko ([].map fun n => (n, o n))))) := rfl
@[instance] theorem g_lex_one_c0_u : UnfAt (wpB C I g_lex_one.c0 (St.mk s o) Q) g_lex_one_c0_sh := Unf.of _
theorem g_lex_one_c1_sh : wpB C I (g_lex_one.c1F R_c0) (St.mk s o) Q =
 (demand (binV BinOp.gtr (s 7) (V.d (.int .i64 12))) (fun x1 =>
condK x1
 (Q .ret (St.mk (look [(4, (V.d (.int .i64 0))), (5, (V.d (.int .i64 0)))]) (looko ([].map fun n => (n, o n)))))
 (wpB C I R_c0 (St.mk (look [(7, s 7), (20, x1)]) (looko ([].map fun n => (n, o n)))) Q))) := rfl
@[instance] theorem g_lex_one_c1_u : UnfAt (wpB C I g_lex_one.c1 (St.mk s o) Q) g_lex_one_c1_sh := Unf.of _
theorem g_lex_one_c2_sh : wpB C I (g_lex_one.c2) (St.mk s o) Q =
 (demand (binV BinOp.add (s 1) (s 8)) (fun x1 =>
demand (slcSV (s 0) (some (s 1)) (some x1)) (fun x2 =>
callK C I (St.mk (upd (upd (upd (upd (upd (upd s 28 (s 0)) 29 (s 1)) 30 (s 1)) 31 (s 8)) 32 x1) 33 x2) o) (some 34) 109 [x2] (fun r3 or3 =>
Q .ret (St.mk (look [(4, r3), (5, s 8)]) (looko ([].map fun n => (n, or3 n)))))))) := rfl
@[instance] theorem g_lex_one_c2_u : UnfAt (wpB C I g_lex_one.c2 (St.mk s o) Q) g_lex_one_c2_sh := Unf.of _
theorem g_lex_one_c3_sh : wpB C I (g_lex_one.c3F R_c1 R_c2) (St.mk s o) Q =
 (callK C I (St.mk (upd s 14 (s 6)) o) (some 15) 105 [(s 6)] (fun r1 or1 =>
condK r1
 (callK C I (St.mk (upd (upd (look [(0, s 0), (1, s 1), (6, s 6), (13, r1)]) 16 (s 0)) 17 (s 1)) (looko ([].map fun n => (n, or1 n)))) (some 18) 102 [(s 0), (s 1), (V.fn 106 [])] (fun r2 or2 =>
wpB C I R_c1 (St.mk (look [(7, r2)]) (looko ([].map fun n => (n, or2 n)))) (blockK 0 [0, 1] (some []) Q)))
 (callK C I (St.mk (upd (look [(0, s 0), (1, s 1), (6, s 6), (13, r1)]) 23 (s 6)) (looko ([].map fun n => (n, or1 n)))) (some 24) 107 [(s 6)] (fun r3 or3 =>
condK r3
 (callK C I (St.mk (upd (upd (look [(0, s 0), (1, s 1), (22, r3)]) 25 (s 0)) 26 (s 1)) (looko ([].map fun n => (n, or3 n)))) (some 27) 102 [(s 0), (s 1), (V.fn 108 [])] (fun r4 or4 =>
wpB C I R_c2 (St.mk (look [(0, s 0), (1, s 1), (8, r4)]) (looko ([].map fun n => (n, or4 n)))) (blockK 0 [0, 1] (some []) Q)))
 (Q .normal (St.mk (look [(0, s 0), (1, s 1)]) (looko ([].map fun n => (n, or3 n))))))))) := rfl
@[instance] theorem g_lex_one_c3_u : UnfAt (wpB C I g_lex_one.c3 (St.mk s o) Q) g_lex_one_c3_sh := Unf.of _
theorem g_lex_one_c4_sh : wpB C I (g_lex_one.c4) (St.mk s o) Q =
 (Q .ret (St.mk (look [(4, (V.d (.int .i64 5))), (5, s 9)]) (looko ([].map fun n => (n, o n))))) := rfl
@[instance] theorem g_lex_one_c4_u : UnfAt (wpB C I g_lex_one.c4 (St.mk s o) Q) g_lex_one_c4_sh := Unf.of _
theorem g_lex_one_c5_sh : wpB C I (g_lex_one.c5F R_c4) (St.mk s o) Q =
 (demand (binV BinOp.eql (s 9) (V.d (.int .i64 0))) (fun x1 =>
condK x1
 (Q .ret (St.mk (look [(4, (V.d (.int .i64 0))), (5, (V.d (.int .i64 0)))]) (looko ([].map fun n => (n, o n)))))
 (wpB C I R_c4 (St.mk (look [(9, s 9), (41, x1)]) (looko ([].map fun n => (n, o n)))) Q))) := rfl
@[instance] theorem g_lex_one_c5_u : UnfAt (wpB C I g_lex_one.c5 (St.mk s o) Q) g_lex_one_c5_sh := Unf.of _
theorem g_lex_one_c6_sh : wpB C I (g_lex_one.c6F R_c5) (St.mk s o) Q =
 (demand (slcSV (s 0) (some (s 1)) none) (fun x1 =>
callK C I (St.mk (upd (upd (upd s 36 (s 0)) 37 (s 1)) 38 x1) o) (some 39) 110 [x1] (fun r2 or2 =>
wpB C I R_c5 (St.mk (look [(9, r2)]) (looko ([].map fun n => (n, or2 n)))) Q))) := rfl
@[instance] theorem g_lex_one_c6_u : UnfAt (wpB C I g_lex_one.c6 (St.mk s o) Q) g_lex_one_c6_sh := Unf.of _
theorem g_lex_one_code_sh : wpB C I (g_lex_one.codeF R_c3 R_c6) (St.mk s o) Q =
 (demand (idxV (s 0) (s 1)) (fun x1 =>
wpB C I R_c3 (St.mk (look [(0, s 0), (1, s 1), (6, x1)]) (looko ([].map fun n => (n, o n)))) (seqK (fun st => wpB C I R_c6 st Q) Q))) := rfl
@[instance] theorem g_lex_one_code_u : UnfAt (wpB C I g_lex_one.code (St.mk s o) Q) g_lex_one_code_sh := Unf.of _
theorem g_tree_parser_token_c0_sh : wpB C I (g_tree_parser_token.c0) (St.mk s o) Q =
 (demand (nilcV (s 0)) (fun x1 =>
demand (faddrV 1 x1) (fun x2 =>
demand (loadV o none x2) (fun x3 =>
demand ((buildN [V.d (.int .i64 0), V.d (.str []), V.d (.int .i64 0)] [(2, 1, x3)]).map V.agg) (fun x4 =>
storeK (s 2) (cellsV x4) 3 o (fun m5 ob6 =>
Q .ret (St.mk (look [(2, s 2)]) (upd o m5 (some ob6))))))))) := rfl
@[instance] theorem g_tree_parser_token_c0_u : UnfAt (wpB C I g_tree_parser_token.c0 (St.mk s o) Q) g_tree_parser_token_c0_sh := Unf.of _
theorem g_tree_parser_token_code_sh : wpB C I (g_tree_parser_token.codeF R_c0) (St.mk s o) Q =
 ((¬ I 2 ∧ Fresh (St.mk s o) 2 (some 2) ∧ V.refsL 2 [V.d (.int .i64 0), V.d (.str []), V.d (.int .i64 0)] = false ∧
V.undef = V.undef ∧ (quietV (upd o 2 (some (Ob.box [V.d (.int .i64 0), V.d (.str []), V.d (.int .i64 0)]))) ((s 0) :: [(s 0)]) ∧
V.undef = V.undef ∧ (demand (nilcV (s 0)) (fun x2 => quietV (upd o 2 (some (Ob.box [V.d (.int .i64 0), V.d (.str []), V.d (.int .i64 0)]))) (x2 :: [(s 0)]) ∧
V.undef = V.undef ∧ (demand (faddrV 2 x2) (fun x3 => quietV (upd o 2 (some (Ob.box [V.d (.int .i64 0), V.d (.str []), V.d (.int .i64 0)]))) (x3 :: [x2]) ∧
V.undef = V.undef ∧ (demand (loadV (upd o 2 (some (Ob.box [V.d (.int .i64 0), V.d (.str []), V.d (.int .i64 0)]))) none x3) (fun x4 => quietV (upd o 2 (some (Ob.box [V.d (.int .i64 0), V.d (.str []), V.d (.int .i64 0)]))) (x4 :: [x3]) ∧
V.undef = V.undef ∧ (quietV (upd o 2 (some (Ob.box [V.d (.int .i64 0), V.d (.str []), V.d (.int .i64 0)]))) ((s 0) :: [(s 0)]) ∧
V.undef = V.undef ∧ (demand (nilcV (s 0)) (fun x6 => quietV (upd o 2 (some (Ob.box [V.d (.int .i64 0), V.d (.str []), V.d (.int .i64 0)]))) (x6 :: [(s 0)]) ∧
V.undef = V.undef ∧ (demand (faddrV 0 x6) (fun x7 => quietV (upd o 2 (some (Ob.box [V.d (.int .i64 0), V.d (.str []), V.d (.int .i64 0)]))) (x7 :: [x6]) ∧
V.undef = V.undef ∧ (demand (loadV (upd o 2 (some (Ob.box [V.d (.int .i64 0), V.d (.str []), V.d (.int .i64 0)]))) none x7) (fun x8 => quietV (upd o 2 (some (Ob.box [V.d (.int .i64 0), V.d (.str []), V.d (.int .i64 0)]))) (x8 :: [x7]) ∧
V.undef = V.undef ∧ (demand (lenV (upd o 2 (some (Ob.box [V.d (.int .i64 0), V.d (.str []), V.d (.int .i64 0)]))) x8) (fun x9 => quietV (upd o 2 (some (Ob.box [V.d (.int .i64 0), V.d (.str []), V.d (.int .i64 0)]))) (x9 :: [x8]) ∧
V.undef = V.undef ∧ (demand (binV BinOp.lss x4 x9) (fun x10 => quietV (upd o 2 (some (Ob.box [V.d (.int .i64 0), V.d (.str []), V.d (.int .i64 0)]))) (x10 :: [x4, x9]) ∧
condK x10
 (V.undef = V.undef ∧ (quietV (upd o 2 (some (Ob.box [V.d (.int .i64 0), V.d (.str []), V.d (.int .i64 0)]))) ((s 0) :: [(s 0)]) ∧
V.undef = V.undef ∧ (demand (nilcV (s 0)) (fun x12 => quietV (upd o 2 (some (Ob.box [V.d (.int .i64 0), V.d (.str []), V.d (.int .i64 0)]))) (x12 :: [(s 0)]) ∧
V.undef = V.undef ∧ (demand (faddrV 0 x12) (fun x13 => quietV (upd o 2 (some (Ob.box [V.d (.int .i64 0), V.d (.str []), V.d (.int .i64 0)]))) (x13 :: [x12]) ∧
V.undef = V.undef ∧ (demand (loadV (upd o 2 (some (Ob.box [V.d (.int .i64 0), V.d (.str []), V.d (.int .i64 0)]))) none x13) (fun x14 => quietV (upd o 2 (some (Ob.box [V.d (.int .i64 0), V.d (.str []), V.d (.int .i64 0)]))) (x14 :: [x13]) ∧
V.undef = V.undef ∧ (quietV (upd o 2 (some (Ob.box [V.d (.int .i64 0), V.d (.str []), V.d (.int .i64 0)]))) ((s 0) :: [(s 0)]) ∧
V.undef = V.undef ∧ (demand (nilcV (s 0)) (fun x16 => quietV (upd o 2 (some (Ob.box [V.d (.int .i64 0), V.d (.str []), V.d (.int .i64 0)]))) (x16 :: [(s 0)]) ∧
V.undef = V.undef ∧ (demand (faddrV 2 x16) (fun x17 => quietV (upd o 2 (some (Ob.box [V.d (.int .i64 0), V.d (.str []), V.d (.int .i64 0)]))) (x17 :: [x16]) ∧
V.undef = V.undef ∧ (demand (loadV (upd o 2 (some (Ob.box [V.d (.int .i64 0), V.d (.str []), V.d (.int .i64 0)]))) none x17) (fun x18 => quietV (upd o 2 (some (Ob.box [V.d (.int .i64 0), V.d (.str []), V.d (.int .i64 0)]))) (x18 :: [x17]) ∧
V.undef = V.undef ∧ (demand (iaddrV (upd o 2 (some (Ob.box [V.d (.int .i64 0), V.d (.str []), V.d (.int .i64 0)]))) 3 x14 x18) (fun x19 => quietV (upd o 2 (some (Ob.box [V.d (.int .i64 0), V.d (.str []), V.d (.int .i64 0)]))) (x19 :: [x14, x18]) ∧
V.undef = V.undef ∧ (demand (loadV (upd o 2 (some (Ob.box [V.d (.int .i64 0), V.d (.str []), V.d (.int .i64 0)]))) (some 3) x19) (fun x20 => quietV (upd o 2 (some (Ob.box [V.d (.int .i64 0), V.d (.str []), V.d (.int .i64 0)]))) (x20 :: [x19]) ∧
(([] : List Nat) = [] ∧ (storeK (V.ptr 2 0) (cellsV x20) 3 (upd o 2 (some (Ob.box [V.d (.int .i64 0), V.d (.str []), V.d (.int .i64 0)]))) (fun m21 ob22 =>
Q .ret (St.mk (look [(2, (V.ptr 2 0))]) (upd (upd o 2 (some (Ob.box [V.d (.int .i64 0), V.d (.str []), V.d (.int .i64 0)]))) m21 (some ob22)))))))))))))))))))))))))
 (wpB C I R_c0 (St.mk (look [(0, s 0), (2, (V.ptr 2 0)), (12, x10)]) (upd o 2 (some (Ob.box [V.d (.int .i64 0), V.d (.str []), V.d (.int .i64 0)])))) Q))))))))))))))))))))) := rfl
@[instance] theorem g_tree_parser_token_code_u : UnfAt (wpB C I g_tree_parser_token.code (St.mk s o) Q) g_tree_parser_token_code_sh := Unf.of _
theorem g_slices_Contains_string_code_sh : wpB C I (g_slices_Contains_string.code) (St.mk s o) Q =
 (callK C I (St.mk (upd (upd (look [(0, s 0), (1, s 1)]) 5 (s 0)) 6 (s 1)) (looko ([].map fun n => (n, o n)))) (some 7) 156 [(s 0), (s 1)] (fun r1 or1 =>
demand (binV BinOp.geq r1 (V.d (.int .i64 0))) (fun x2 =>
Q .ret (St.mk (look [(4, x2)]) (looko ([].map fun n => (n, or1 n))))))) := rfl
@[instance] theorem g_slices_Contains_string_code_u : UnfAt (wpB C I g_slices_Contains_string.code (St.mk s o) Q) g_slices_Contains_string_code_sh := Unf.of _
theorem g_tree_kinds_code_sh : wpB C I (g_tree_kinds.code) (St.mk s o) Q =
 (lstK (partsN 1 [(V.d (.str [101, 97, 114, 110])), (V.d (.str [112, 114, 101, 116, 97, 120])), (V.d (.str [112, 111, 115, 116])), (V.d (.str [108, 101, 116]))]) (fun es1 => ¬ I 1 ∧ Fresh (St.mk (look []) (looko ([].map fun n => (n, o n)))) 1 (some 1) ∧
Q .ret (St.mk (look [(0, (V.own 1))]) (looko ([1].map fun n => (n, (upd (looko ([].map fun n => (n, o n))) 1 (some (Ob.row 1 es1))) n)))))) := rfl
@[instance] theorem g_tree_kinds_code_u : UnfAt (wpB C I g_tree_kinds.code (St.mk s o) Q) g_tree_kinds_code_sh := Unf.of _
theorem g_tree_parser_fail_code_sh : wpB C I (g_tree_parser_fail.code) (St.mk s o) Q =
 (demand (nilcV (s 0)) (fun x1 =>
demand (faddrV 5 x1) (fun x2 =>
demand (loadV o none x2) (fun x3 =>
demand (binV BinOp.eql x3 (V.d (.int .i64 0))) (fun x4 =>
condK x4
 (callK C I (St.mk (upd (upd (upd (upd (look [(0, s 0), (1, s 1), (8, x4)]) 9 (s 0)) 10 (s 0)) 11 (s 1)) 12 (s 0)) o) (some 13) 217 [(s 0)] (fun r5 or5 =>
demand (fldV 2 none r5) (fun x6 =>
demand (nilcV (s 0)) (fun x7 =>
demand (faddrV 5 x7) (fun x8 =>
storeK x8 (cellsV (s 1)) 1 or5 (fun m9 ob10 =>
demand (nilcV (s 0)) (fun x11 =>
demand (faddrV 6 x11) (fun x12 =>
storeK x12 (cellsV x6) 1 (upd or5 m9 (some ob10)) (fun m13 ob14 =>
Q .normal (St.mk (look []) (upd (upd or5 m9 (some ob10)) m13 (some ob14))))))))))))
 (Q .normal (St.mk (look [(0, s 0), (1, s 1), (8, x4)]) o))))))) := rfl
@[instance] theorem g_tree_parser_fail_code_u : UnfAt (wpB C I g_tree_parser_fail.code (St.mk s o) Q) g_tree_parser_fail_code_sh := Unf.of _
theorem g_tree_parser_take_o5_sh : opsB C I (g_tree_parser_take.o5) (St.mk s o) K =
 (demand (pickV (s 24) (V.d (.bool true)) (s 29)) (fun x1 =>
K (St.mk (upd s 30 x1) o))) := rfl
@[instance] theorem g_tree_parser_take_o5_u : UnfAt (opsB C I g_tree_parser_take.o5 (St.mk s o) K) g_tree_parser_take_o5_sh := Unf.of _
theorem g_tree_parser_take_o4_sh : opsB C I (g_tree_parser_take.o4F R_o5) (St.mk s o) K =
 (guardK (s 24) false
 (demand (faddrV 1 (s 6)) (fun x1 =>
demand (loadV o none x1) (fun x2 =>
callK C I (St.mk (upd (upd (upd (upd (upd (upd (upd s 24 (V.d (D.bool false))) 25 (s 1)) 24 (V.d (D.bool false))) 26 x1) 24 (V.d (D.bool false))) 27 x2) 24 (V.d (D.bool false))) o) (some 28) 155 [(s 1), x2] (fun r3 or3 =>
demand (unV UnOp.not r3) (fun x4 =>
opsB C I R_o5 (St.mk (look [(0, s 0), (6, s 6), (24, (V.d (D.bool false))), (29, x4)]) or3) K)))))
 (opsB C I R_o5 (St.mk (look [(0, s 0), (6, s 6), (24, (V.d (D.bool true))), (29, (V.tup []))]) o) K)
 (opsB C I R_o5 (St.mk (look [(0, s 0), (6, s 6), (24, (V.tup [])), (29, (V.tup []))]) o) K)) := rfl
@[instance] theorem g_tree_parser_take_o4_u : UnfAt (opsB C I g_tree_parser_take.o4 (St.mk s o) K) g_tree_parser_take_o4_sh := Unf.of _
theorem g_tree_parser_take_o3_sh : opsB C I (g_tree_parser_take.o3F R_o4) (St.mk s o) K =
 (demand (pickV (s 14) (V.d (.bool true)) (s 22)) (fun x1 =>
opsB C I R_o4 (St.mk (look [(0, s 0), (1, s 1), (6, s 6), (24, x1)]) o) K)) := rfl
@[instance] theorem g_tree_parser_take_o3_u : UnfAt (opsB C I g_tree_parser_take.o3 (St.mk s o) K) g_tree_parser_take_o3_sh := Unf.of _
theorem g_tree_parser_take_o2_sh : opsB C I (g_tree_parser_take.o2F R_o3) (St.mk s o) K =
 (guardK (s 14) false
 (demand (pickV (s 18) (s 21) (V.d (.bool false))) (fun x1 =>
opsB C I R_o3 (St.mk (look [(0, s 0), (1, s 1), (6, s 6), (14, (V.d (D.bool false))), (22, x1)]) o) K))
 (opsB C I R_o3 (St.mk (look [(0, s 0), (1, s 1), (6, s 6), (14, (V.d (D.bool true))), (22, (V.tup []))]) o) K)
 (opsB C I R_o3 (St.mk (look [(0, s 0), (1, s 1), (6, s 6), (14, (V.tup [])), (22, (V.tup []))]) o) K)) := rfl
@[instance] theorem g_tree_parser_take_o2_u : UnfAt (opsB C I g_tree_parser_take.o2 (St.mk s o) K) g_tree_parser_take_o2_sh := Unf.of _
theorem g_tree_parser_take_o1_sh : opsB C I (g_tree_parser_take.o1F R_o2) (St.mk s o) K =
 (guardK (s 18) true
 (demand (faddrV 0 (s 6)) (fun x1 =>
demand (loadV o none x1) (fun x2 =>
demand (binV BinOp.neq x2 (V.d (.int .i64 5))) (fun x3 =>
opsB C I R_o2 (St.mk (look [(0, s 0), (1, s 1), (6, s 6), (14, s 14), (18, (V.d (D.bool true))), (21, x3)]) o) K))))
 (opsB C I R_o2 (St.mk (look [(0, s 0), (1, s 1), (6, s 6), (14, s 14), (18, (V.d (D.bool false))), (21, (V.tup []))]) o) K)
 (opsB C I R_o2 (St.mk (look [(0, s 0), (1, s 1), (6, s 6), (14, s 14), (18, (V.tup [])), (21, (V.tup []))]) o) K)) := rfl
@[instance] theorem g_tree_parser_take_o1_u : UnfAt (opsB C I g_tree_parser_take.o1 (St.mk s o) K) g_tree_parser_take_o1_sh := Unf.of _
theorem g_tree_parser_take_o0_sh : opsB C I (g_tree_parser_take.o0F R_o1) (St.mk s o) K =
 (guardK (s 14) false
 (demand (faddrV 0 (s 6)) (fun x1 =>
demand (loadV o none x1) (fun x2 =>
demand (binV BinOp.neq x2 (V.d (.int .i64 1))) (fun x3 =>
opsB C I R_o1 (St.mk (look [(0, s 0), (1, s 1), (6, s 6), (14, (V.d (D.bool false))), (18, x3)]) o) K))))
 (opsB C I R_o1 (St.mk (look [(0, s 0), (1, s 1), (6, s 6), (14, (V.d (D.bool true))), (18, (V.tup []))]) o) K)
 (opsB C I R_o1 (St.mk (look [(0, s 0), (1, s 1), (6, s 6), (14, (V.tup [])), (18, (V.tup []))]) o) K)) := rfl
@[instance] theorem g_tree_parser_take_o0_u : UnfAt (opsB C I g_tree_parser_take.o0 (St.mk s o) K) g_tree_parser_take_o0_sh := Unf.of _
theorem g_tree_parser_take_c0_sh : wpB C I (g_tree_parser_take.c0) (St.mk s o) Q =
 (condK (s 30)
 (Q .ret (St.mk (look [(4, (V.d (.str []))), (5, (V.d (.bool false)))]) o))
 (Q .normal (St.mk s o))) := rfl
@[instance] theorem g_tree_parser_take_c0_u : UnfAt (wpB C I g_tree_parser_take.c0 (St.mk s o) Q) g_tree_parser_take_c0_sh := Unf.of _
theorem g_tree_parser_take_c1_sh : wpB C I (g_tree_parser_take.c1) (St.mk s o) Q =
 (demand (faddrV 1 (s 6)) (fun x1 =>
demand (loadV o none x1) (fun x2 =>
Q .ret (St.mk (look [(4, x2), (5, (V.d (.bool true)))]) o)))) := rfl
@[instance] theorem g_tree_parser_take_c1_u : UnfAt (wpB C I g_tree_parser_take.c1 (St.mk s o) Q) g_tree_parser_take_c1_sh := Unf.of _
theorem g_tree_parser_take_c2_sh : wpB C I (g_tree_parser_take.c2F R_c1) (St.mk s o) Q =
 (demand (nilcV (s 0)) (fun x1 =>
demand (faddrV 2 x1) (fun x2 =>
demand (loadV o none x2) (fun x3 =>
demand (binV BinOp.add x3 (V.d (.int .i64 1))) (fun x4 =>
demand (nilcV (s 0)) (fun x5 =>
demand (faddrV 2 x5) (fun x6 =>
storeK x6 (cellsV x4) 1 o (fun m7 ob8 =>
wpB C I R_c1 (St.mk (look [(6, s 6)]) (upd o m7 (some ob8))) Q)))))))) := rfl
@[instance] theorem g_tree_parser_take_c2_u : UnfAt (wpB C I g_tree_parser_take.c2 (St.mk s o) Q) g_tree_parser_take_c2_sh := Unf.of _
theorem g_tree_parser_take_c3_sh : wpB C I (g_tree_parser_take.c3F R_o0 R_c0 R_c2) (St.mk s o) Q =
 (demand (nilcV (s 0)) (fun x1 =>
demand (faddrV 5 x1) (fun x2 =>
demand (loadV o none x2) (fun x3 =>
demand (binV BinOp.neq x3 (V.d (.int .i64 0))) (fun x4 =>
opsB C I R_o0 (St.mk (look [(0, s 0), (1, s 1), (6, s 6), (14, x4)]) o) (fun st => (seqK (fun st => wpB C I R_c0 st (seqK (fun st => wpB C I R_c2 st Q) Q)) (seqK (fun st => wpB C I R_c2 st Q) Q)) .normal (St.trim st [0, 6, 30] none))))))) := rfl
@[instance] theorem g_tree_parser_take_c3_u : UnfAt (wpB C I g_tree_parser_take.c3 (St.mk s o) Q) g_tree_parser_take_c3_sh := Unf.of _
theorem g_tree_parser_take_code_sh : wpB C I (g_tree_parser_take.codeF R_c3) (St.mk s o) Q =
 (callK C I (St.mk (upd (look [(0, s 0), (1, s 1)]) 7 (s 0)) o) (some 8) 217 [(s 0)] (fun r1 or1 =>
(¬ I 6 ∧ Fresh (St.mk (upd (upd (look [(0, s 0), (1, s 1)]) 7 (s 0)) 8 r1) or1) 6 (some 6) ∧ V.refsL 6 [V.d (.int .i64 0), V.d (.str []), V.d (.int .i64 0)] = false ∧
storeK (V.ptr 6 0) (cellsV r1) 3 (upd or1 6 (some (Ob.box [V.d (.int .i64 0), V.d (.str []), V.d (.int .i64 0)]))) (fun m2 ob3 =>
wpB C I R_c3 (St.mk (look [(0, s 0), (1, s 1), (6, (V.ptr 6 0))]) (upd (upd or1 6 (some (Ob.box [V.d (.int .i64 0), V.d (.str []), V.d (.int .i64 0)]))) m2 (some ob3))) Q)))) := rfl
@[instance] theorem g_tree_parser_take_code_u : UnfAt (wpB C I g_tree_parser_take.code (St.mk s o) Q) g_tree_parser_take_code_sh := Unf.of _
theorem g_tree_named_code_sh : wpB C I (g_tree_named.code) (St.mk s o) Q =
 (callK C I (St.mk (look [(0, s 0)]) (looko ([].map fun n => (n, o n)))) (some 3) 157 [] (fun r1 or1 =>
lstK (partsN 1 [(V.d (.str [105, 102])), (V.d (.str [116, 104, 101, 110])), (V.d (.str [101, 108, 115, 101])), (V.d (.str [109, 105, 110])), (V.d (.str [109, 97, 120]))]) (fun es2 =>
lstK (readD or1 (V.d (D.sl es2))) (fun ys3 => (∀ e ∈ ys3, e.length = 1) ∧ appK r1
 (ys3.length * 16 ≤ 140737488355328 ∧ ys3.length ≤ 140737488355328 ∧
callK C I (St.mk (upd (upd (upd (upd (look [(0, s 0)]) 3 r1) 4 (V.d (D.sl es2))) 5 (V.d (D.sl ys3))) 6 (s 0)) or1) (some 7) 155 [(V.d (D.sl ys3)), (s 0)] (fun r8 or8 =>
demand (unV UnOp.not r8) (fun x9 =>
Q .ret (St.mk (look [(2, x9)]) (looko ([].map fun n => (n, or8 n)))))))
 (fun m4 => ¬ I m4 ∧ rowK (or1 m4) (fun z5 es6 => z5 = 1 ∧ (es6.length + ys3.length) * 16 ≤ 140737488355328 ∧ es6.length + ys3.length ≤ 140737488355328 ∧
freeK (St.mk (upd (fun t => scrubV m4 ((upd (upd (look [(0, s 0)]) 3 r1) 4 (V.d (D.sl es2))) t)) 5 (V.own m4)) (upd (fun n => (or1 n).map (Ob.scrub m4)) m4 (some (Ob.row 1 (es6 ++ ys3))))) m4 (fun st7 =>
callK C I (St.mk (upd st7.s 6 (st7.s 0)) st7.o) (some 7) 155 [(st7.s 5), (st7.s 0)] (fun r10 or10 =>
demand (unV UnOp.not r10) (fun x11 =>
Q .ret (St.mk (look [(2, x11)]) (looko ([].map fun n => (n, or10 n))))))))))))) := rfl
@[instance] theorem g_tree_named_code_u : UnfAt (wpB C I g_tree_named.code (St.mk s o) Q) g_tree_named_code_sh := Unf.of _
theorem g_tree_parser_need_c0_sh : wpB C I (g_tree_parser_need.c0) (St.mk s o) Q =
 (demand (unV UnOp.not (s 5)) (fun x1 =>
condK x1
 (callK C I (St.mk (upd (look [(0, s 0), (14, x1)]) 15 (s 0)) o) (some 16) 218 [(s 0), (V.d (.int .i64 2))] (fun r2 or2 =>
Q .normal (St.mk (look []) or2)))
 (Q .normal (St.mk (look [(0, s 0), (14, x1)]) o)))) := rfl
@[instance] theorem g_tree_parser_need_c0_u : UnfAt (wpB C I g_tree_parser_need.c0 (St.mk s o) Q) g_tree_parser_need_c0_sh := Unf.of _
theorem g_tree_parser_need_code_sh : wpB C I (g_tree_parser_need.codeF R_c0) (St.mk s o) Q =
 (lstK (partsN 1 [(s 1)]) (fun es1 =>
callK C I (St.mk (upd (upd (upd s 7 (s 0)) 8 (s 1)) 9 (V.d (D.sl es1))) o) (some 10) 219 [(s 0), (V.d (D.sl es1))] (fun r2 or2 =>
demand (extV r2 0) (fun x3 =>
demand (extV r2 1) (fun x4 =>
wpB C I R_c0 (St.mk (look [(0, s 0), (5, x4)]) or2) Q))))) := rfl
@[instance] theorem g_tree_parser_need_code_u : UnfAt (wpB C I g_tree_parser_need.code (St.mk s o) Q) g_tree_parser_need_code_sh := Unf.of _
theorem g_tree_parser_expression_c0_sh : wpB C I (g_tree_parser_expression.c0) (St.mk s o) Q =
 (demand ((buildN [V.d (.str []), V.d (.str []), V.d (.int .i64 0), V.d (.int .i64 0), V.d (.int .i64 0), V.d (.int .i64 0)] [(0, 1, (V.d (.str [105, 102]))), (3, 1, (s 7)), (4, 1, (s 8)), (5, 1, (s 9))]).map V.agg) (fun x1 =>
callK C I (St.mk (upd (upd (upd (upd (upd s 46 (s 0)) 47 (s 7)) 48 (s 8)) 49 (s 9)) 50 x1) o) (some 51) 222 [(s 0), x1] (fun r2 or2 =>
Q .ret (St.mk (look [(4, r2)]) or2)))) := rfl
@[instance] theorem g_tree_parser_expression_c0_u : UnfAt (wpB C I g_tree_parser_expression.c0 (St.mk s o) Q) g_tree_parser_expression_c0_sh := Unf.of _
theorem g_tree_parser_expression_c1_sh : wpB C I (g_tree_parser_expression.c1F R_c0) (St.mk s o) Q =
 (callK C I (St.mk (upd s 40 (s 0)) o) (some 41) 220 [(s 0), (V.d (.str [101, 108, 115, 101]))] (fun r1 or1 =>
demand (binV BinOp.add (s 1) (V.d (.int .i64 1))) (fun x2 =>
callK C I (St.mk (upd (upd (upd (look [(0, s 0), (1, s 1), (7, s 7), (8, s 8)]) 42 (s 0)) 43 (s 1)) 44 x2) or1) (some 45) 221 [(s 0), x2] (fun r3 or3 =>
wpB C I R_c0 (St.mk (look [(0, s 0), (7, s 7), (8, s 8), (9, r3)]) or3) Q)))) := rfl
@[instance] theorem g_tree_parser_expression_c1_u : UnfAt (wpB C I g_tree_parser_expression.c1 (St.mk s o) Q) g_tree_parser_expression_c1_sh := Unf.of _
theorem g_tree_parser_expression_c2_sh : wpB C I (g_tree_parser_expression.c2F R_c1) (St.mk s o) Q =
 (callK C I (St.mk (upd s 34 (s 0)) o) (some 35) 220 [(s 0), (V.d (.str [116, 104, 101, 110]))] (fun r1 or1 =>
demand (binV BinOp.add (s 1) (V.d (.int .i64 1))) (fun x2 =>
callK C I (St.mk (upd (upd (upd (look [(0, s 0), (1, s 1), (7, s 7)]) 36 (s 0)) 37 (s 1)) 38 x2) or1) (some 39) 221 [(s 0), x2] (fun r3 or3 =>
wpB C I R_c1 (St.mk (look [(0, s 0), (1, s 1), (7, s 7), (8, r3)]) or3) Q)))) := rfl
@[instance] theorem g_tree_parser_expression_c2_u : UnfAt (wpB C I g_tree_parser_expression.c2 (St.mk s o) Q) g_tree_parser_expression_c2_sh := Unf.of _
theorem g_tree_parser_expression_c3_sh : wpB C I (g_tree_parser_expression.c3F R_c2) (St.mk s o) Q =
 (condK (s 6)
 (demand (binV BinOp.add (s 1) (V.d (.int .i64 1))) (fun x1 =>
callK C I (St.mk (upd (upd (upd (look [(0, s 0), (1, s 1), (29, s 6)]) 30 (s 0)) 31 (s 1)) 32 x1) o) (some 33) 221 [(s 0), x1] (fun r2 or2 =>
wpB C I R_c2 (St.mk (look [(0, s 0), (1, s 1), (7, r2)]) or2) Q)))
 (Q .normal (St.mk (look [(0, s 0), (1, s 1), (29, s 6)]) o))) := rfl
@[instance] theorem g_tree_parser_expression_c3_u : UnfAt (wpB C I g_tree_parser_expression.c3 (St.mk s o) Q) g_tree_parser_expression_c3_sh := Unf.of _
theorem g_tree_parser_expression_c4_sh : wpB C I (g_tree_parser_expression.c4) (St.mk s o) Q =
 (demand ((buildN [V.d (.str []), V.d (.str []), V.d (.int .i64 0), V.d (.int .i64 0), V.d (.int .i64 0), V.d (.int .i64 0)] [(0, 1, (s 11)), (3, 1, (s 10)), (4, 1, (s 13))]).map V.agg) (fun x1 =>
callK C I (St.mk (upd (upd (upd (upd (upd s 65 (s 0)) 66 (s 11)) 67 (s 10)) 68 (s 13)) 69 x1) o) (some 70) 222 [(s 0), x1] (fun r2 or2 =>
Q .ret (St.mk (look [(4, r2)]) or2)))) := rfl
@[instance] theorem g_tree_parser_expression_c4_u : UnfAt (wpB C I g_tree_parser_expression.c4 (St.mk s o) Q) g_tree_parser_expression_c4_sh := Unf.of _
theorem g_tree_parser_expression_c5_sh : wpB C I (g_tree_parser_expression.c5F R_c4) (St.mk s o) Q =
 (condK (s 12)
 (callK C I (St.mk (upd (upd (look [(0, s 0), (1, s 1), (10, s 10), (11, s 11), (61, s 12)]) 62 (s 0)) 63 (s 1)) o) (some 64) 223 [(s 0), (s 1)] (fun r1 or1 =>
wpB C I R_c4 (St.mk (look [(0, s 0), (10, s 10), (11, s 11), (13, r1)]) or1) Q))
 (Q .normal (St.mk (look [(0, s 0), (1, s 1), (10, s 10), (11, s 11), (61, s 12)]) o))) := rfl
@[instance] theorem g_tree_parser_expression_c5_u : UnfAt (wpB C I g_tree_parser_expression.c5 (St.mk s o) Q) g_tree_parser_expression_c5_sh := Unf.of _
theorem g_tree_parser_expression_c6_sh : wpB C I (g_tree_parser_expression.c6) (St.mk s o) Q =
 (Q .ret (St.mk (look [(4, s 10)]) o)) := rfl
@[instance] theorem g_tree_parser_expression_c6_u : UnfAt (wpB C I g_tree_parser_expression.c6 (St.mk s o) Q) g_tree_parser_expression_c6_sh := Unf.of _
theorem g_tree_parser_expression_c7_sh : wpB C I (g_tree_parser_expression.c7F R_c5 R_c6) (St.mk s o) Q =
 (lstK (partsN 1 [(V.d (.str [60])), (V.d (.str [60, 61])), (V.d (.str [61])), (V.d (.str [60, 62])), (V.d (.str [62])), (V.d (.str [62, 61]))]) (fun es1 =>
callK C I (St.mk (upd (upd s 56 (s 0)) 57 (V.d (D.sl es1))) o) (some 58) 219 [(s 0), (V.d (D.sl es1))] (fun r2 or2 =>
demand (extV r2 0) (fun x3 =>
demand (extV r2 1) (fun x4 =>
wpB C I R_c5 (St.mk (look [(0, s 0), (1, s 1), (10, s 10), (11, x3), (12, x4)]) or2) (seqK (fun st => wpB C I R_c6 st Q) Q)))))) := rfl
@[instance] theorem g_tree_parser_expression_c7_u : UnfAt (wpB C I g_tree_parser_expression.c7 (St.mk s o) Q) g_tree_parser_expression_c7_sh := Unf.of _
theorem g_tree_parser_expression_c8_sh : wpB C I (g_tree_parser_expression.c8F R_c7) (St.mk s o) Q =
 (callK C I (St.mk (upd (upd s 52 (s 0)) 53 (s 1)) o) (some 54) 223 [(s 0), (s 1)] (fun r1 or1 =>
wpB C I R_c7 (St.mk (look [(0, s 0), (1, s 1), (10, r1)]) or1) Q)) := rfl
@[instance] theorem g_tree_parser_expression_c8_u : UnfAt (wpB C I g_tree_parser_expression.c8 (St.mk s o) Q) g_tree_parser_expression_c8_sh := Unf.of _
theorem g_tree_parser_expression_c9_sh : wpB C I (g_tree_parser_expression.c9F R_c3 R_c8) (St.mk s o) Q =
 (lstK (partsN 1 [(V.d (.str [105, 102]))]) (fun es1 =>
callK C I (St.mk (upd (upd s 24 (s 0)) 25 (V.d (D.sl es1))) o) (some 26) 219 [(s 0), (V.d (D.sl es1))] (fun r2 or2 =>
demand (extV r2 0) (fun x3 =>
demand (extV r2 1) (fun x4 =>
wpB C I R_c3 (St.mk (look [(0, s 0), (1, s 1), (6, x4)]) or2) (seqK (fun st => wpB C I R_c8 st Q) Q)))))) := rfl
@[instance] theorem g_tree_parser_expression_c9_u : UnfAt (wpB C I g_tree_parser_expression.c9 (St.mk s o) Q) g_tree_parser_expression_c9_sh := Unf.of _
theorem g_tree_parser_expression_c10_sh : wpB C I (g_tree_parser_expression.c10F R_c9) (St.mk s o) Q =
 (demand (nilcV (s 0)) (fun x1 =>
demand (faddrV 5 x1) (fun x2 =>
demand (loadV o none x2) (fun x3 =>
demand (binV BinOp.neq x3 (V.d (.int .i64 0))) (fun x4 =>
condK x4
 (Q .ret (St.mk (look [(4, (V.d (.int .i64 0)))]) o))
 (wpB C I R_c9 (St.mk (look [(0, s 0), (1, s 1), (22, x4)]) o) Q)))))) := rfl
@[instance] theorem g_tree_parser_expression_c10_u : UnfAt (wpB C I g_tree_parser_expression.c10 (St.mk s o) Q) g_tree_parser_expression_c10_sh := Unf.of _
theorem g_tree_parser_expression_code_sh : wpB C I (g_tree_parser_expression.codeF R_c10) (St.mk s o) Q =
 (demand (binV BinOp.gtr (s 1) (V.d (.int .i64 20))) (fun x1 =>
condK x1
 (callK C I (St.mk (upd (look [(0, s 0), (1, s 1), (15, x1)]) 16 (s 0)) o) (some 17) 218 [(s 0), (V.d (.int .i64 9))] (fun r2 or2 =>
wpB C I R_c10 (St.mk (look [(0, s 0), (1, s 1)]) or2) Q))
 (wpB C I R_c10 (St.mk (look [(0, s 0), (1, s 1), (15, x1)]) o) Q))) := rfl
@[instance] theorem g_tree_parser_expression_code_u : UnfAt (wpB C I g_tree_parser_expression.code (St.mk s o) Q) g_tree_parser_expression_code_sh := Unf.of _
theorem g_show_parts_c0_sh : wpB C I (g_show_parts.c0) (St.mk s o) Q =
 (condK (s 21)
 (demand (faddrV 0 (s 1)) (fun x1 =>
demand (loadV o none x1) (fun x2 =>
demand (binV BinOp.add x2 (V.d (.str [40]))) (fun x3 =>
demand ((buildN [V.d (.str []), V.d (.int .i64 0), V.d (.int .i64 0)] [(0, 1, x3)]).map V.agg) (fun x4 =>
demand (faddrV 3 (s 1)) (fun x5 =>
demand (loadV o none x5) (fun x6 =>
demand ((buildN [V.d (.str []), V.d (.int .i64 0), V.d (.int .i64 0)] [(1, 1, x6)]).map V.agg) (fun x7 =>
demand ((buildN [V.d (.str []), V.d (.int .i64 0), V.d (.int .i64 0)] [(0, 1, (V.d (.str [44, 32])))]).map V.agg) (fun x8 =>
demand (faddrV 4 (s 1)) (fun x9 =>
demand (loadV o none x9) (fun x10 =>
demand ((buildN [V.d (.str []), V.d (.int .i64 0), V.d (.int .i64 0)] [(1, 1, x10)]).map V.agg) (fun x11 =>
demand ((buildN [V.d (.str []), V.d (.int .i64 0), V.d (.int .i64 0)] [(0, 1, (V.d (.str [41])))]).map V.agg) (fun x12 =>
lstK (partsN 3 [x4, x7, x8, x11, x12]) (fun es13 => ¬ I 36 ∧ Fresh (St.mk (upd (upd (upd (upd (upd (upd (upd (upd (upd (upd (upd (upd s 24 x1) 25 x2) 26 x3) 27 x4) 28 x5) 29 x6) 30 x7) 31 x8) 32 x9) 33 x10) 34 x11) 35 x12) o) 36 (some 36) ∧
Q .ret (St.mk (look [(2, (V.own 36))]) (looko ([11, 20, 36, 51, 70].map fun n => (n, (upd o 36 (some (Ob.row 3 es13))) n))))))))))))))))))
 (demand (binV BinOp.eql (s 13) (V.d (.str [105, 102]))) (fun x14 =>
condK x14
 (demand ((buildN [V.d (.str []), V.d (.int .i64 0), V.d (.int .i64 0)] [(0, 1, (V.d (.str [105, 102, 32])))]).map V.agg) (fun x15 =>
demand (faddrV 3 (s 1)) (fun x16 =>
demand (loadV (looko ([1].map fun n => (n, o n))) none x16) (fun x17 =>
demand ((buildN [V.d (.str []), V.d (.int .i64 0), V.d (.int .i64 0)] [(1, 1, x17)]).map V.agg) (fun x18 =>
demand ((buildN [V.d (.str []), V.d (.int .i64 0), V.d (.int .i64 0)] [(0, 1, (V.d (.str [32, 116, 104, 101, 110, 32])))]).map V.agg) (fun x19 =>
demand (faddrV 4 (s 1)) (fun x20 =>
demand (loadV (looko ([1].map fun n => (n, o n))) none x20) (fun x21 =>
demand ((buildN [V.d (.str []), V.d (.int .i64 0), V.d (.int .i64 0)] [(1, 1, x21)]).map V.agg) (fun x22 =>
demand ((buildN [V.d (.str []), V.d (.int .i64 0), V.d (.int .i64 0)] [(0, 1, (V.d (.str [32, 101, 108, 115, 101, 32])))]).map V.agg) (fun x23 =>
demand (faddrV 5 (s 1)) (fun x24 =>
demand (loadV (looko ([1].map fun n => (n, o n))) none x24) (fun x25 =>
demand ((buildN [V.d (.str []), V.d (.int .i64 0), V.d (.int .i64 0)] [(1, 1, x25)]).map V.agg) (fun x26 =>
lstK (partsN 3 [x15, x18, x19, x22, x23, x26]) (fun es27 => ¬ I 51 ∧ Fresh (St.mk (upd (upd (upd (upd (upd (upd (upd (upd (upd (upd (upd (upd (look [(1, s 1), (37, x14)]) 39 x15) 40 x16) 41 x17) 42 x18) 43 x19) 44 x20) 45 x21) 46 x22) 47 x23) 48 x24) 49 x25) 50 x26) (looko ([1].map fun n => (n, o n)))) 51 (some 51) ∧
Q .ret (St.mk (look [(2, (V.own 51))]) (looko ([11, 20, 36, 51, 70].map fun n => (n, (upd (looko ([1].map fun n => (n, o n))) 51 (some (Ob.row 3 es27))) n))))))))))))))))))
 (Q .normal (St.mk (look [(1, s 1), (37, x14)]) (looko ([1].map fun n => (n, o n)))))))) := rfl
@[instance] theorem g_show_parts_c0_u : UnfAt (wpB C I g_show_parts.c0 (St.mk s o) Q) g_show_parts_c0_sh := Unf.of _
theorem g_show_parts_c1_sh : wpB C I (g_show_parts.c1) (St.mk s o) Q =
 (demand (faddrV 3 (s 1)) (fun x1 =>
demand (loadV o none x1) (fun x2 =>
demand (mmV true [(s 4), (V.d (.int .i64 2))]) (fun x3 =>
demand ((buildN [V.d (.str []), V.d (.int .i64 0), V.d (.int .i64 0)] [(1, 1, x2), (2, 1, x3)]).map V.agg) (fun x4 =>
demand (faddrV 0 (s 1)) (fun x5 =>
demand (loadV o none x5) (fun x6 =>
demand (binV BinOp.add (V.d (.str [32])) x6) (fun x7 =>
demand (binV BinOp.add x7 (V.d (.str [32]))) (fun x8 =>
demand ((buildN [V.d (.str []), V.d (.int .i64 0), V.d (.int .i64 0)] [(0, 1, x8)]).map V.agg) (fun x9 =>
demand (faddrV 4 (s 1)) (fun x10 =>
demand (loadV o none x10) (fun x11 =>
demand (binV BinOp.add (s 4) (V.d (.int .i64 1))) (fun x12 =>
demand ((buildN [V.d (.str []), V.d (.int .i64 0), V.d (.int .i64 0)] [(1, 1, x11), (2, 1, x12)]).map V.agg) (fun x13 =>
lstK (partsN 3 [x4, x9, x13]) (fun es14 => ¬ I 70 ∧ Fresh (St.mk (upd (upd (upd (upd (upd (upd (upd (upd (upd (upd (upd (upd (upd (upd (upd s 55 x1) 56 x2) 57 (s 4)) 58 x3) 59 x4) 60 x5) 61 x6) 62 x7) 63 x8) 64 x9) 65 x10) 66 x11) 67 (s 4)) 68 x12) 69 x13) o) 70 (some 70) ∧
Q .ret (St.mk (look [(2, (V.own 70))]) (looko ([11, 20, 36, 51, 70].map fun n => (n, (upd o 70 (some (Ob.row 3 es14))) n))))))))))))))))))) := rfl
@[instance] theorem g_show_parts_c1_u : UnfAt (wpB C I g_show_parts.c1 (St.mk s o) Q) g_show_parts_c1_sh := Unf.of _
theorem g_show_parts_c2_sh : wpB C I (g_show_parts.c2F R_c1) (St.mk s o) Q =
 (demand (faddrV 0 (s 1)) (fun x1 =>
demand (loadV o none x1) (fun x2 =>
callK C I (St.mk (upd (upd s 52 x1) 53 x2) o) (some 54) 211 [x2] (fun r3 or3 =>
wpB C I R_c1 (St.mk (look [(1, s 1), (4, r3)]) (looko ([1].map fun n => (n, or3 n)))) Q)))) := rfl
@[instance] theorem g_show_parts_c2_u : UnfAt (wpB C I g_show_parts.c2 (St.mk s o) Q) g_show_parts_c2_sh := Unf.of _
theorem g_show_parts_c3_sh : wpB C I (g_show_parts.c3F R_c0 R_c2) (St.mk s o) Q =
 (demand (faddrV 0 (s 1)) (fun x1 =>
demand (loadV o none x1) (fun x2 =>
demand (binV BinOp.eql x2 (V.d (.str [110, 101, 103]))) (fun x3 =>
condK x3
 (demand ((buildN [V.d (.str []), V.d (.int .i64 0), V.d (.int .i64 0)] [(0, 1, (V.d (.str [45])))]).map V.agg) (fun x4 =>
demand (faddrV 3 (s 1)) (fun x5 =>
demand (loadV (looko ([1].map fun n => (n, o n))) none x5) (fun x6 =>
demand ((buildN [V.d (.str []), V.d (.int .i64 0), V.d (.int .i64 0)] [(1, 1, x6), (2, 1, (V.d (.int .i64 4)))]).map V.agg) (fun x7 =>
lstK (partsN 3 [x4, x7]) (fun es8 => ¬ I 20 ∧ Fresh (St.mk (upd (upd (upd (upd (look [(1, s 1), (13, x2), (14, x3)]) 16 x4) 17 x5) 18 x6) 19 x7) (looko ([1].map fun n => (n, o n)))) 20 (some 20) ∧
Q .ret (St.mk (look [(2, (V.own 20))]) (looko ([11, 20, 36, 51, 70].map fun n => (n, (upd (looko ([1].map fun n => (n, o n))) 20 (some (Ob.row 3 es8))) n))))))))))
 (demand (binV BinOp.eql x2 (V.d (.str [109, 105, 110]))) (fun x9 =>
condK x9
 (wpB C I R_c0 (St.mk (look [(1, s 1), (13, x2), (21, x9)]) (looko ([1].map fun n => (n, o n)))) (blockK 0 [1] (some [1]) (seqK (fun st => wpB C I R_c2 st Q) Q)))
 (demand (binV BinOp.eql x2 (V.d (.str [109, 97, 120]))) (fun x10 =>
wpB C I R_c0 (St.mk (look [(1, s 1), (13, x2), (21, x10)]) (looko ([1].map fun n => (n, o n)))) (blockK 0 [1] (some [1]) (seqK (fun st => wpB C I R_c2 st Q) Q)))))))))) := rfl
@[instance] theorem g_show_parts_c3_u : UnfAt (wpB C I g_show_parts.c3 (St.mk s o) Q) g_show_parts_c3_sh := Unf.of _
theorem g_show_parts_code_sh : wpB C I (g_show_parts.codeF R_c3) (St.mk s o) Q =
 (lstK (cellsV (s 0)) (fun c1 => c1.length = 6 ∧ ¬ I 1 ∧ Fresh (St.mk s o) 1 (some 1) ∧ V.refsL 1 c1 = false ∧
demand (loadV (looko ([1].map fun n => (n, (upd o 1 (some (Ob.box c1))) n))) (some 6) (V.ptr 1 0)) (fun x2 =>
callK C I (St.mk (upd (look [(1, (V.ptr 1 0))]) 5 x2) (looko ([1].map fun n => (n, (upd o 1 (some (Ob.box c1))) n)))) (some 6) 216 [x2] (fun r3 or3 =>
demand (binV BinOp.neq r3 (V.d (.str []))) (fun x4 =>
condK x4
 (demand ((buildN [V.d (.str []), V.d (.int .i64 0), V.d (.int .i64 0)] [(0, 1, r3)]).map V.agg) (fun x5 =>
lstK (partsN 3 [x5]) (fun es6 => ¬ I 11 ∧ Fresh (St.mk (upd (upd (look [(1, (V.ptr 1 0)), (3, r3), (8, x4)]) 9 r3) 10 x5) (looko ([1].map fun n => (n, or3 n)))) 11 (some 11) ∧
Q .ret (St.mk (look [(2, (V.own 11))]) (looko ([11, 20, 36, 51, 70].map fun n => (n, (upd (looko ([1].map fun n => (n, or3 n))) 11 (some (Ob.row 3 es6))) n)))))))
 (wpB C I R_c3 (St.mk (look [(1, (V.ptr 1 0)), (3, r3), (8, x4)]) (looko ([1].map fun n => (n, or3 n)))) Q)))))) := rfl
@[instance] theorem g_show_parts_code_u : UnfAt (wpB C I g_show_parts.code (St.mk s o) Q) g_show_parts_code_sh := Unf.of _
theorem g_show_level_c0_sh : wpB C I (g_show_level.c0) (St.mk s o) Q =
 (condK (s 13)
 (Q .ret (St.mk (look [(2, (V.d (.int .i64 2)))]) (looko ([].map fun n => (n, o n)))))
 (demand (binV BinOp.eql (s 3) (V.d (.str [42]))) (fun x1 =>
condK x1
 (Q .ret (St.mk (look [(2, (V.d (.int .i64 3)))]) (looko ([].map fun n => (n, o n)))))
 (Q .normal (St.mk (look [(16, x1)]) (looko ([].map fun n => (n, o n)))))))) := rfl
@[instance] theorem g_show_level_c0_u : UnfAt (wpB C I g_show_level.c0 (St.mk s o) Q) g_show_level_c0_sh := Unf.of _
theorem g_show_level_c1_sh : wpB C I (g_show_level.c1F R_c0) (St.mk s o) Q =
 (condK (s 6)
 (Q .ret (St.mk (look [(2, (V.d (.int .i64 1)))]) (looko ([].map fun n => (n, o n)))))
 (demand (binV BinOp.eql (s 3) (V.d (.str [43]))) (fun x1 =>
condK x1
 (wpB C I R_c0 (St.mk (look [(3, s 3), (13, x1)]) (looko ([].map fun n => (n, o n)))) Q)
 (demand (binV BinOp.eql (s 3) (V.d (.str [45]))) (fun x2 =>
wpB C I R_c0 (St.mk (look [(3, s 3), (13, x2)]) (looko ([].map fun n => (n, o n)))) Q))))) := rfl
@[instance] theorem g_show_level_c1_u : UnfAt (wpB C I g_show_level.c1 (St.mk s o) Q) g_show_level_c1_sh := Unf.of _
theorem g_show_level_c2_sh : wpB C I (g_show_level.c2) (St.mk s o) Q =
 (Q .ret (St.mk (look [(2, (V.d (.int .i64 4)))]) (looko ([].map fun n => (n, o n))))) := rfl
@[instance] theorem g_show_level_c2_u : UnfAt (wpB C I g_show_level.c2 (St.mk s o) Q) g_show_level_c2_sh := Unf.of _
theorem g_show_level_code_sh : wpB C I (g_show_level.codeF R_c1 R_c2) (St.mk s o) Q =
 (demand (binV BinOp.eql (s 0) (V.d (.str [105, 102]))) (fun x1 =>
condK x1
 (Q .ret (St.mk (look [(2, (V.d (.int .i64 0)))]) (looko ([].map fun n => (n, o n)))))
 (demand (binV BinOp.eql (s 0) (V.d (.str [60]))) (fun x2 =>
condK x2
 (wpB C I R_c1 (St.mk (look [(3, s 0), (6, x2)]) (looko ([].map fun n => (n, o n)))) (blockK 0 [] (some []) (seqK (fun st => wpB C I R_c2 st Q) Q)))
 (demand (binV BinOp.eql (s 0) (V.d (.str [60, 61]))) (fun x3 =>
condK x3
 (wpB C I R_c1 (St.mk (look [(3, s 0), (6, x3)]) (looko ([].map fun n => (n, o n)))) (blockK 0 [] (some []) (seqK (fun st => wpB C I R_c2 st Q) Q)))
 (demand (binV BinOp.eql (s 0) (V.d (.str [61]))) (fun x4 =>
condK x4
 (wpB C I R_c1 (St.mk (look [(3, s 0), (6, x4)]) (looko ([].map fun n => (n, o n)))) (blockK 0 [] (some []) (seqK (fun st => wpB C I R_c2 st Q) Q)))
 (demand (binV BinOp.eql (s 0) (V.d (.str [60, 62]))) (fun x5 =>
condK x5
 (wpB C I R_c1 (St.mk (look [(3, s 0), (6, x5)]) (looko ([].map fun n => (n, o n)))) (blockK 0 [] (some []) (seqK (fun st => wpB C I R_c2 st Q) Q)))
 (demand (binV BinOp.eql (s 0) (V.d (.str [62]))) (fun x6 =>
condK x6
 (wpB C I R_c1 (St.mk (look [(3, s 0), (6, x6)]) (looko ([].map fun n => (n, o n)))) (blockK 0 [] (some []) (seqK (fun st => wpB C I R_c2 st Q) Q)))
 (demand (binV BinOp.eql (s 0) (V.d (.str [62, 61]))) (fun x7 =>
wpB C I R_c1 (St.mk (look [(3, s 0), (6, x7)]) (looko ([].map fun n => (n, o n)))) (blockK 0 [] (some []) (seqK (fun st => wpB C I R_c2 st Q) Q)))))))))))))))) := rfl
@[instance] theorem g_show_level_code_u : UnfAt (wpB C I g_show_level.code (St.mk s o) Q) g_show_level_code_sh := Unf.of _
theorem g_slices_Reverse_item_t8_sh : treeB C I g_slices_Reverse_item.a0 (.one 15 .done) (St.mk s o) K =
 ((([] : List Nat) = [] ∧ (storeK (s 27) (cellsV (s 25)) 3 o (fun m1 ob2 =>
K (St.mk s (upd o m1 (some ob2))))))) := rfl
@[instance] theorem g_slices_Reverse_item_t8_u : UnfAt (treeB C I g_slices_Reverse_item.a0 g_slices_Reverse_item.t8 (St.mk s o) K) g_slices_Reverse_item_t8_sh := Unf.of _
theorem g_slices_Reverse_item_t9_sh : treeB C I g_slices_Reverse_item.a0 (.one 14 R_t8) (St.mk s o) K =
 ((([] : List Nat) = [] ∧ (demand (iaddrV o 3 (s 16) (s 17)) (fun x1 =>
treeB C I g_slices_Reverse_item.a0 R_t8 (St.mk (upd s 27 x1) o) K)))) := rfl
@[instance] theorem g_slices_Reverse_item_t9_u : UnfAt (treeB C I g_slices_Reverse_item.a0 g_slices_Reverse_item.t9 (St.mk s o) K) g_slices_Reverse_item_t9_sh := Unf.of _
theorem g_slices_Reverse_item_t10_sh : treeB C I g_slices_Reverse_item.a0 (.one 13 R_t9) (St.mk s o) K =
 ((([] : List Nat) = [] ∧ (storeK (s 26) (cellsV (s 21)) 3 o (fun m1 ob2 =>
treeB C I g_slices_Reverse_item.a0 R_t9 (St.mk s (upd o m1 (some ob2))) K)))) := rfl
@[instance] theorem g_slices_Reverse_item_t10_u : UnfAt (treeB C I g_slices_Reverse_item.a0 g_slices_Reverse_item.t10 (St.mk s o) K) g_slices_Reverse_item_t10_sh := Unf.of _
theorem g_slices_Reverse_item_t11_sh : treeB C I g_slices_Reverse_item.a0 (.one 12 R_t10) (St.mk s o) K =
 ((([] : List Nat) = [] ∧ (demand (iaddrV o 3 (s 14) (s 15)) (fun x1 =>
treeB C I g_slices_Reverse_item.a0 R_t10 (St.mk (upd s 26 x1) o) K)))) := rfl
@[instance] theorem g_slices_Reverse_item_t11_u : UnfAt (treeB C I g_slices_Reverse_item.a0 g_slices_Reverse_item.t11 (St.mk s o) K) g_slices_Reverse_item_t11_sh := Unf.of _
theorem g_slices_Reverse_item_t12_sh : treeB C I g_slices_Reverse_item.a0 (.one 11 R_t11) (St.mk s o) K =
 ((([] : List Nat) = [] ∧ (demand (loadV o (some 3) (s 24)) (fun x1 =>
treeB C I g_slices_Reverse_item.a0 R_t11 (St.mk (upd s 25 x1) o) K)))) := rfl
@[instance] theorem g_slices_Reverse_item_t12_u : UnfAt (treeB C I g_slices_Reverse_item.a0 g_slices_Reverse_item.t12 (St.mk s o) K) g_slices_Reverse_item_t12_sh := Unf.of _
theorem g_slices_Reverse_item_t13_sh : treeB C I g_slices_Reverse_item.a0 (.one 10 R_t12) (St.mk s o) K =
 ((([] : List Nat) = [] ∧ (demand (iaddrV o 3 (s 22) (s 23)) (fun x1 =>
treeB C I g_slices_Reverse_item.a0 R_t12 (St.mk (upd s 24 x1) o) K)))) := rfl
@[instance] theorem g_slices_Reverse_item_t13_u : UnfAt (treeB C I g_slices_Reverse_item.a0 g_slices_Reverse_item.t13 (St.mk s o) K) g_slices_Reverse_item_t13_sh := Unf.of _
theorem g_slices_Reverse_item_t14_sh : treeB C I g_slices_Reverse_item.a0 (.one 7 R_t11) (St.mk s o) K =
 ((([] : List Nat) = [] ∧ (demand (loadV o (some 3) (s 20)) (fun x1 =>
treeB C I g_slices_Reverse_item.a0 R_t11 (St.mk (upd s 21 x1) o) K)))) := rfl
@[instance] theorem g_slices_Reverse_item_t14_u : UnfAt (treeB C I g_slices_Reverse_item.a0 g_slices_Reverse_item.t14 (St.mk s o) K) g_slices_Reverse_item_t14_sh := Unf.of _
theorem g_slices_Reverse_item_t15_sh : treeB C I g_slices_Reverse_item.a0 (.one 11 R_t14) (St.mk s o) K =
 ((([] : List Nat) = [] ∧ (demand (loadV o (some 3) (s 24)) (fun x1 =>
treeB C I g_slices_Reverse_item.a0 R_t14 (St.mk (upd s 25 x1) o) K)))) := rfl
@[instance] theorem g_slices_Reverse_item_t15_u : UnfAt (treeB C I g_slices_Reverse_item.a0 g_slices_Reverse_item.t15 (St.mk s o) K) g_slices_Reverse_item_t15_sh := Unf.of _
theorem g_slices_Reverse_item_t16_sh : treeB C I g_slices_Reverse_item.a0 (.two 7 R_t12 R_t15) (St.mk s o) K =
 ((([] : List Nat) = [] ∧ (demand (loadV o (some 3) (s 20)) (fun x1 =>
treeB C I g_slices_Reverse_item.a0 R_t12 (St.mk (upd s 21 x1) o) K))) ∧ treeB C I g_slices_Reverse_item.a0 R_t15 (St.mk s o) K) := rfl
@[instance] theorem g_slices_Reverse_item_t16_u : UnfAt (treeB C I g_slices_Reverse_item.a0 g_slices_Reverse_item.t16 (St.mk s o) K) g_slices_Reverse_item_t16_sh := Unf.of _
theorem g_slices_Reverse_item_t17_sh : treeB C I g_slices_Reverse_item.a0 (.one 10 R_t16) (St.mk s o) K =
 ((([] : List Nat) = [] ∧ (demand (iaddrV o 3 (s 22) (s 23)) (fun x1 =>
treeB C I g_slices_Reverse_item.a0 R_t16 (St.mk (upd s 24 x1) o) K)))) := rfl
@[instance] theorem g_slices_Reverse_item_t17_u : UnfAt (treeB C I g_slices_Reverse_item.a0 g_slices_Reverse_item.t17 (St.mk s o) K) g_slices_Reverse_item_t17_sh := Unf.of _
theorem g_slices_Reverse_item_t18_sh : treeB C I g_slices_Reverse_item.a0 (.two 7 R_t13 R_t17) (St.mk s o) K =
 ((([] : List Nat) = [] ∧ (demand (loadV o (some 3) (s 20)) (fun x1 =>
treeB C I g_slices_Reverse_item.a0 R_t13 (St.mk (upd s 21 x1) o) K))) ∧ treeB C I g_slices_Reverse_item.a0 R_t17 (St.mk s o) K) := rfl
@[instance] theorem g_slices_Reverse_item_t18_u : UnfAt (treeB C I g_slices_Reverse_item.a0 g_slices_Reverse_item.t18 (St.mk s o) K) g_slices_Reverse_item_t18_sh := Unf.of _
theorem g_slices_Reverse_item_t19_sh : treeB C I g_slices_Reverse_item.a0 (.one 6 R_t14) (St.mk s o) K =
 ((([] : List Nat) = [] ∧ (demand (iaddrV o 3 (s 18) (s 19)) (fun x1 =>
treeB C I g_slices_Reverse_item.a0 R_t14 (St.mk (upd s 20 x1) o) K)))) := rfl
@[instance] theorem g_slices_Reverse_item_t19_u : UnfAt (treeB C I g_slices_Reverse_item.a0 g_slices_Reverse_item.t19 (St.mk s o) K) g_slices_Reverse_item_t19_sh := Unf.of _
theorem g_slices_Reverse_item_t20_sh : treeB C I g_slices_Reverse_item.a0 (.one 11 R_t19) (St.mk s o) K =
 ((([] : List Nat) = [] ∧ (demand (loadV o (some 3) (s 24)) (fun x1 =>
treeB C I g_slices_Reverse_item.a0 R_t19 (St.mk (upd s 25 x1) o) K)))) := rfl
@[instance] theorem g_slices_Reverse_item_t20_u : UnfAt (treeB C I g_slices_Reverse_item.a0 g_slices_Reverse_item.t20 (St.mk s o) K) g_slices_Reverse_item_t20_sh := Unf.of _
theorem g_slices_Reverse_item_t21_sh : treeB C I g_slices_Reverse_item.a0 (.two 6 R_t16 R_t20) (St.mk s o) K =
 ((([] : List Nat) = [] ∧ (demand (iaddrV o 3 (s 18) (s 19)) (fun x1 =>
treeB C I g_slices_Reverse_item.a0 R_t16 (St.mk (upd s 20 x1) o) K))) ∧ treeB C I g_slices_Reverse_item.a0 R_t20 (St.mk s o) K) := rfl
@[instance] theorem g_slices_Reverse_item_t21_u : UnfAt (treeB C I g_slices_Reverse_item.a0 g_slices_Reverse_item.t21 (St.mk s o) K) g_slices_Reverse_item_t21_sh := Unf.of _
theorem g_slices_Reverse_item_t22_sh : treeB C I g_slices_Reverse_item.a0 (.one 10 R_t21) (St.mk s o) K =
 ((([] : List Nat) = [] ∧ (demand (iaddrV o 3 (s 22) (s 23)) (fun x1 =>
treeB C I g_slices_Reverse_item.a0 R_t21 (St.mk (upd s 24 x1) o) K)))) := rfl
@[instance] theorem g_slices_Reverse_item_t22_u : UnfAt (treeB C I g_slices_Reverse_item.a0 g_slices_Reverse_item.t22 (St.mk s o) K) g_slices_Reverse_item_t22_sh := Unf.of _
theorem g_slices_Reverse_item_t23_sh : treeB C I g_slices_Reverse_item.a0 (.two 6 R_t18 R_t22) (St.mk s o) K =
 ((([] : List Nat) = [] ∧ (demand (iaddrV o 3 (s 18) (s 19)) (fun x1 =>
treeB C I g_slices_Reverse_item.a0 R_t18 (St.mk (upd s 20 x1) o) K))) ∧ treeB C I g_slices_Reverse_item.a0 R_t22 (St.mk s o) K) := rfl
@[instance] theorem g_slices_Reverse_item_t23_u : UnfAt (treeB C I g_slices_Reverse_item.a0 g_slices_Reverse_item.t23 (St.mk s o) K) g_slices_Reverse_item_t23_sh := Unf.of _
theorem g_slices_Reverse_item_i7_sh : drawB C I g_slices_Reverse_item.a0 (9 :: []) R_t23 (St.mk s o) K =
 ((s 23) = V.undef ∧ (quietV o ((s 2) :: [(s 2)]) ∧
treeB C I g_slices_Reverse_item.a0 R_t23 (St.mk (upd s 23 (s 2)) o) K)) := rfl
@[instance] theorem g_slices_Reverse_item_i7_u : UnfAt (drawB C I g_slices_Reverse_item.a0 g_slices_Reverse_item.i7 g_slices_Reverse_item.t23 (St.mk s o) K) g_slices_Reverse_item_i7_sh := Unf.of _
theorem g_slices_Reverse_item_i6_sh : drawB C I g_slices_Reverse_item.a0 (2008 :: R_i7) R_t23 (St.mk s o) K =
 ((s 22) = V.undef ∧ (drawB C I g_slices_Reverse_item.a0 R_i7 R_t23 (St.mk (upd s 22 (s 0)) o) K)) := rfl
@[instance] theorem g_slices_Reverse_item_i6_u : UnfAt (drawB C I g_slices_Reverse_item.a0 g_slices_Reverse_item.i6 g_slices_Reverse_item.t23 (St.mk s o) K) g_slices_Reverse_item_i6_sh := Unf.of _
theorem g_slices_Reverse_item_i5_sh : drawB C I g_slices_Reverse_item.a0 (5 :: R_i6) R_t23 (St.mk s o) K =
 ((s 19) = V.undef ∧ (quietV o ((s 3) :: [(s 3)]) ∧
drawB C I g_slices_Reverse_item.a0 R_i6 R_t23 (St.mk (upd s 19 (s 3)) o) K)) := rfl
@[instance] theorem g_slices_Reverse_item_i5_u : UnfAt (drawB C I g_slices_Reverse_item.a0 g_slices_Reverse_item.i5 g_slices_Reverse_item.t23 (St.mk s o) K) g_slices_Reverse_item_i5_sh := Unf.of _
theorem g_slices_Reverse_item_i4_sh : drawB C I g_slices_Reverse_item.a0 (2004 :: R_i5) R_t23 (St.mk s o) K =
 ((s 18) = V.undef ∧ (drawB C I g_slices_Reverse_item.a0 R_i5 R_t23 (St.mk (upd s 18 (s 0)) o) K)) := rfl
@[instance] theorem g_slices_Reverse_item_i4_u : UnfAt (drawB C I g_slices_Reverse_item.a0 g_slices_Reverse_item.i4 g_slices_Reverse_item.t23 (St.mk s o) K) g_slices_Reverse_item_i4_sh := Unf.of _
theorem g_slices_Reverse_item_i3_sh : drawB C I g_slices_Reverse_item.a0 (3 :: R_i4) R_t23 (St.mk s o) K =
 ((s 17) = V.undef ∧ (quietV o ((s 3) :: [(s 3)]) ∧
drawB C I g_slices_Reverse_item.a0 R_i4 R_t23 (St.mk (upd s 17 (s 3)) o) K)) := rfl
@[instance] theorem g_slices_Reverse_item_i3_u : UnfAt (drawB C I g_slices_Reverse_item.a0 g_slices_Reverse_item.i3 g_slices_Reverse_item.t23 (St.mk s o) K) g_slices_Reverse_item_i3_sh := Unf.of _
theorem g_slices_Reverse_item_i2_sh : drawB C I g_slices_Reverse_item.a0 (2002 :: R_i3) R_t23 (St.mk s o) K =
 ((s 16) = V.undef ∧ (drawB C I g_slices_Reverse_item.a0 R_i3 R_t23 (St.mk (upd s 16 (s 0)) o) K)) := rfl
@[instance] theorem g_slices_Reverse_item_i2_u : UnfAt (drawB C I g_slices_Reverse_item.a0 g_slices_Reverse_item.i2 g_slices_Reverse_item.t23 (St.mk s o) K) g_slices_Reverse_item_i2_sh := Unf.of _
theorem g_slices_Reverse_item_i1_sh : drawB C I g_slices_Reverse_item.a0 (1 :: R_i2) R_t23 (St.mk s o) K =
 ((s 15) = V.undef ∧ (quietV o ((s 2) :: [(s 2)]) ∧
drawB C I g_slices_Reverse_item.a0 R_i2 R_t23 (St.mk (upd s 15 (s 2)) o) K)) := rfl
@[instance] theorem g_slices_Reverse_item_i1_u : UnfAt (drawB C I g_slices_Reverse_item.a0 g_slices_Reverse_item.i1 g_slices_Reverse_item.t23 (St.mk s o) K) g_slices_Reverse_item_i1_sh := Unf.of _
theorem g_slices_Reverse_item_c0_sh : wpB C I (g_slices_Reverse_item.c0) (St.mk s o) Q =
 (demand (binV BinOp.add (s 2) (V.d (.int .i64 1))) (fun x1 =>
demand (binV BinOp.sub (s 3) (V.d (.int .i64 1))) (fun x2 =>
Q .normal (St.mk (look [(0, s 0), (2, x1), (3, x2)]) o)))) := rfl
@[instance] theorem g_slices_Reverse_item_c0_u : UnfAt (wpB C I g_slices_Reverse_item.c0 (St.mk s o) Q) g_slices_Reverse_item_c0_sh := Unf.of _
theorem g_slices_Reverse_item_l0_sh (hL : R_l0 = g_slices_Reverse_item.l0F R_i1 R_t23 R_c0)
 (h : demand (binV BinOp.lss (s 2) (s 3)) (fun x1 =>
condK x1
 (V.undef = V.undef ∧ (drawB C I g_slices_Reverse_item.a0 R_i1 R_t23 (St.mk (upd (look [(0, s 0), (2, s 2), (3, s 3), (9, x1)]) 14 (s 0)) o) (fun st => (blockK 1 [0, 2, 3] none (seqK (fun st => wpB C I R_c0 st (seqK (fun s => wpB C I R_l0 s Q) Q)) (seqK (fun s => wpB C I R_l0 s Q) Q))) .normal (St.trim st [0, 2, 3] none))))
 (Q (.exit 0) (St.mk (look [(0, s 0), (2, s 2), (3, s 3), (9, x1)]) o)))) : wpB C I R_l0 (St.mk s o) Q := w_loopC hL h
theorem g_slices_Reverse_item_c1_sh : wpB C I (g_slices_Reverse_item.c1F R_l0) (St.mk s o) Q =
 (wpB C I R_l0 (St.mk s o) (blockK 0 [] none Q)) := rfl
@[instance] theorem g_slices_Reverse_item_c1_u : UnfAt (wpB C I g_slices_Reverse_item.c1 (St.mk s o) Q) g_slices_Reverse_item_c1_sh := Unf.of _
theorem g_slices_Reverse_item_code_sh : wpB C I (g_slices_Reverse_item.codeF R_c1) (St.mk s o) Q =
 (demand (lenV o (s 0)) (fun x1 =>
demand (binV BinOp.sub x1 (V.d (.int .i64 1))) (fun x2 =>
wpB C I R_c1 (St.mk (look [(0, s 0), (2, (V.d (.int .i64 0))), (3, x2)]) o) Q))) := rfl
@[instance] theorem g_slices_Reverse_item_code_u : UnfAt (wpB C I g_slices_Reverse_item.code (St.mk s o) Q) g_slices_Reverse_item_code_sh := Unf.of _
theorem g_lex_letter_o1_sh : opsB C I (g_lex_letter.o1) (St.mk s o) K =
 (demand (pickV (s 5) (s 7) (V.d (.bool false))) (fun x1 =>
K (St.mk (upd (upd s 8 x1) 2 x1) o))) := rfl
@[instance] theorem g_lex_letter_o1_u : UnfAt (opsB C I g_lex_letter.o1 (St.mk s o) K) g_lex_letter_o1_sh := Unf.of _
theorem g_lex_letter_o0_sh : opsB C I (g_lex_letter.o0F R_o1) (St.mk s o) K =
 (guardK (s 5) true
 (demand (binV BinOp.leq (s 0) (V.d (.int .u8 122))) (fun x1 =>
opsB C I R_o1 (St.mk (look [(5, (V.d (D.bool true))), (7, x1)]) (looko ([].map fun n => (n, o n)))) K))
 (opsB C I R_o1 (St.mk (look [(5, (V.d (D.bool false))), (7, (V.tup []))]) (looko ([].map fun n => (n, o n)))) K)
 (opsB C I R_o1 (St.mk (look [(5, (V.tup [])), (7, (V.tup []))]) (looko ([].map fun n => (n, o n)))) K)) := rfl
@[instance] theorem g_lex_letter_o0_u : UnfAt (opsB C I g_lex_letter.o0 (St.mk s o) K) g_lex_letter_o0_sh := Unf.of _
theorem g_lex_letter_c0_sh : wpB C I (g_lex_letter.c0) (St.mk s o) Q =
 (Q .ret (St.mk s o)) := rfl
@[instance] theorem g_lex_letter_c0_u : UnfAt (wpB C I g_lex_letter.c0 (St.mk s o) Q) g_lex_letter_c0_sh := Unf.of _
theorem g_lex_letter_code_sh : wpB C I (g_lex_letter.codeF R_o0 R_c0) (St.mk s o) Q =
 (demand (binV BinOp.geq (s 0) (V.d (.int .u8 97))) (fun x1 =>
opsB C I R_o0 (St.mk (look [(0, s 0), (5, x1)]) (looko ([].map fun n => (n, o n)))) (fun st => (seqK (fun st => wpB C I R_c0 st Q) Q) .normal (St.trim st [2] (some []))))) := rfl
@[instance] theorem g_lex_letter_code_u : UnfAt (wpB C I g_lex_letter.code (St.mk s o) Q) g_lex_letter_code_sh := Unf.of _
theorem g_lex_one_1_o1_sh : opsB C I (g_lex_one_1.o1) (St.mk s o) K =
 (demand (pickV (s 5) (V.d (.bool true)) (s 7)) (fun x1 =>
K (St.mk (upd (upd s 8 x1) 2 x1) o))) := rfl
@[instance] theorem g_lex_one_1_o1_u : UnfAt (opsB C I g_lex_one_1.o1 (St.mk s o) K) g_lex_one_1_o1_sh := Unf.of _
theorem g_lex_one_1_o0_sh : opsB C I (g_lex_one_1.o0F R_o1) (St.mk s o) K =
 (guardK (s 5) false
 (callK C I (St.mk (upd (upd (upd s 5 (V.d (D.bool false))) 6 (s 0)) 5 (V.d (D.bool false))) o) (some 7) 107 [(s 0)] (fun r1 or1 =>
opsB C I R_o1 (St.mk (look [(5, (V.d (D.bool false))), (7, r1)]) (looko ([].map fun n => (n, or1 n)))) K))
 (opsB C I R_o1 (St.mk (look [(5, (V.d (D.bool true))), (7, (V.tup []))]) (looko ([].map fun n => (n, o n)))) K)
 (opsB C I R_o1 (St.mk (look [(5, (V.tup [])), (7, (V.tup []))]) (looko ([].map fun n => (n, o n)))) K)) := rfl
@[instance] theorem g_lex_one_1_o0_u : UnfAt (opsB C I g_lex_one_1.o0 (St.mk s o) K) g_lex_one_1_o0_sh := Unf.of _
theorem g_lex_one_1_c0_sh : wpB C I (g_lex_one_1.c0) (St.mk s o) Q =
 (Q .ret (St.mk s o)) := rfl
@[instance] theorem g_lex_one_1_c0_u : UnfAt (wpB C I g_lex_one_1.c0 (St.mk s o) Q) g_lex_one_1_c0_sh := Unf.of _
theorem g_lex_one_1_code_sh : wpB C I (g_lex_one_1.codeF R_o0 R_c0) (St.mk s o) Q =
 (callK C I (St.mk (upd (look [(0, s 0)]) 3 (s 0)) (looko ([].map fun n => (n, o n)))) (some 4) 105 [(s 0)] (fun r1 or1 =>
opsB C I R_o0 (St.mk (look [(0, s 0), (5, r1)]) (looko ([].map fun n => (n, or1 n)))) (fun st => (seqK (fun st => wpB C I R_c0 st Q) Q) .normal (St.trim st [2] (some []))))) := rfl
@[instance] theorem g_lex_one_1_code_u : UnfAt (wpB C I g_lex_one_1.code (St.mk s o) Q) g_lex_one_1_code_sh := Unf.of _
theorem g_lex_digit_o1_sh : opsB C I (g_lex_digit.o1) (St.mk s o) K =
 (demand (pickV (s 5) (s 7) (V.d (.bool false))) (fun x1 =>
K (St.mk (upd (upd s 8 x1) 2 x1) o))) := rfl
@[instance] theorem g_lex_digit_o1_u : UnfAt (opsB C I g_lex_digit.o1 (St.mk s o) K) g_lex_digit_o1_sh := Unf.of _
theorem g_lex_digit_o0_sh : opsB C I (g_lex_digit.o0F R_o1) (St.mk s o) K =
 (guardK (s 5) true
 (demand (binV BinOp.leq (s 0) (V.d (.int .u8 57))) (fun x1 =>
opsB C I R_o1 (St.mk (look [(5, (V.d (D.bool true))), (7, x1)]) (looko ([].map fun n => (n, o n)))) K))
 (opsB C I R_o1 (St.mk (look [(5, (V.d (D.bool false))), (7, (V.tup []))]) (looko ([].map fun n => (n, o n)))) K)
 (opsB C I R_o1 (St.mk (look [(5, (V.tup [])), (7, (V.tup []))]) (looko ([].map fun n => (n, o n)))) K)) := rfl
@[instance] theorem g_lex_digit_o0_u : UnfAt (opsB C I g_lex_digit.o0 (St.mk s o) K) g_lex_digit_o0_sh := Unf.of _
theorem g_lex_digit_c0_sh : wpB C I (g_lex_digit.c0) (St.mk s o) Q =
 (Q .ret (St.mk s o)) := rfl
@[instance] theorem g_lex_digit_c0_u : UnfAt (wpB C I g_lex_digit.c0 (St.mk s o) Q) g_lex_digit_c0_sh := Unf.of _
theorem g_lex_digit_code_sh : wpB C I (g_lex_digit.codeF R_o0 R_c0) (St.mk s o) Q =
 (demand (binV BinOp.geq (s 0) (V.d (.int .u8 48))) (fun x1 =>
opsB C I R_o0 (St.mk (look [(0, s 0), (5, x1)]) (looko ([].map fun n => (n, o n)))) (fun st => (seqK (fun st => wpB C I R_c0 st Q) Q) .normal (St.trim st [2] (some []))))) := rfl
@[instance] theorem g_lex_digit_code_u : UnfAt (wpB C I g_lex_digit.code (St.mk s o) Q) g_lex_digit_code_sh := Unf.of _
theorem g_lex_one_2_o3_sh : opsB C I (g_lex_one_2.o3) (St.mk s o) K =
 (demand (pickV (s 9) (V.d (.bool true)) (s 11)) (fun x1 =>
K (St.mk (upd (upd s 12 x1) 2 x1) o))) := rfl
@[instance] theorem g_lex_one_2_o3_u : UnfAt (opsB C I g_lex_one_2.o3 (St.mk s o) K) g_lex_one_2_o3_sh := Unf.of _
theorem g_lex_one_2_o2_sh : opsB C I (g_lex_one_2.o2F R_o3) (St.mk s o) K =
 (guardK (s 9) false
 (demand (binV BinOp.eql (s 0) (V.d (.int .u8 37))) (fun x1 =>
opsB C I R_o3 (St.mk (look [(9, (V.d (D.bool false))), (11, x1)]) (looko ([].map fun n => (n, o n)))) K))
 (opsB C I R_o3 (St.mk (look [(9, (V.d (D.bool true))), (11, (V.tup []))]) (looko ([].map fun n => (n, o n)))) K)
 (opsB C I R_o3 (St.mk (look [(9, (V.tup [])), (11, (V.tup []))]) (looko ([].map fun n => (n, o n)))) K)) := rfl
@[instance] theorem g_lex_one_2_o2_u : UnfAt (opsB C I g_lex_one_2.o2 (St.mk s o) K) g_lex_one_2_o2_sh := Unf.of _
theorem g_lex_one_2_o1_sh : opsB C I (g_lex_one_2.o1F R_o2) (St.mk s o) K =
 (demand (pickV (s 5) (V.d (.bool true)) (s 7)) (fun x1 =>
opsB C I R_o2 (St.mk (look [(0, s 0), (9, x1)]) (looko ([].map fun n => (n, o n)))) K)) := rfl
@[instance] theorem g_lex_one_2_o1_u : UnfAt (opsB C I g_lex_one_2.o1 (St.mk s o) K) g_lex_one_2_o1_sh := Unf.of _
theorem g_lex_one_2_o0_sh : opsB C I (g_lex_one_2.o0F R_o1) (St.mk s o) K =
 (guardK (s 5) false
 (demand (binV BinOp.eql (s 0) (V.d (.int .u8 46))) (fun x1 =>
opsB C I R_o1 (St.mk (look [(0, s 0), (5, (V.d (D.bool false))), (7, x1)]) (looko ([].map fun n => (n, o n)))) K))
 (opsB C I R_o1 (St.mk (look [(0, s 0), (5, (V.d (D.bool true))), (7, (V.tup []))]) (looko ([].map fun n => (n, o n)))) K)
 (opsB C I R_o1 (St.mk (look [(0, s 0), (5, (V.tup [])), (7, (V.tup []))]) (looko ([].map fun n => (n, o n)))) K)) := rfl
@[instance] theorem g_lex_one_2_o0_u : UnfAt (opsB C I g_lex_one_2.o0 (St.mk s o) K) g_lex_one_2_o0_sh := Unf.of _
theorem g_lex_one_2_c0_sh : wpB C I (g_lex_one_2.c0) (St.mk s o) Q =
 (Q .ret (St.mk s o)) := rfl
@[instance] theorem g_lex_one_2_c0_u : UnfAt (wpB C I g_lex_one_2.c0 (St.mk s o) Q) g_lex_one_2_c0_sh := Unf.of _
theorem g_lex_one_2_code_sh : wpB C I (g_lex_one_2.codeF R_o0 R_c0) (St.mk s o) Q =
 (callK C I (St.mk (upd (look [(0, s 0)]) 3 (s 0)) (looko ([].map fun n => (n, o n)))) (some 4) 107 [(s 0)] (fun r1 or1 =>
opsB C I R_o0 (St.mk (look [(0, s 0), (5, r1)]) (looko ([].map fun n => (n, or1 n)))) (fun st => (seqK (fun st => wpB C I R_c0 st Q) Q) .normal (St.trim st [2] (some []))))) := rfl
@[instance] theorem g_lex_one_2_code_u : UnfAt (wpB C I g_lex_one_2.code (St.mk s o) Q) g_lex_one_2_code_sh := Unf.of _
theorem g_lex_figure_c0_sh : wpB C I (g_lex_figure.c0) (St.mk s o) Q =
 (condK (s 4)
 (Q .ret (St.mk (look [(2, (V.d (.int .i64 3)))]) (looko ([].map fun n => (n, o n)))))
 (Q .normal (St.mk (look [(0, s 0), (12, s 4)]) (looko ([].map fun n => (n, o n)))))) := rfl
@[instance] theorem g_lex_figure_c0_u : UnfAt (wpB C I g_lex_figure.c0 (St.mk s o) Q) g_lex_figure_c0_sh := Unf.of _
theorem g_lex_figure_c1_sh : wpB C I (g_lex_figure.c1) (St.mk s o) Q =
 (condK (s 6)
 (Q .ret (St.mk (look [(2, (V.d (.int .i64 4)))]) (looko ([].map fun n => (n, o n)))))
 (Q .normal (St.mk (look [(0, s 0), (18, s 6)]) (looko ([].map fun n => (n, o n)))))) := rfl
@[instance] theorem g_lex_figure_c1_u : UnfAt (wpB C I g_lex_figure.c1 (St.mk s o) Q) g_lex_figure_c1_sh := Unf.of _
theorem g_lex_figure_o5_sh : opsB C I (g_lex_figure.o5) (St.mk s o) K =
 (demand (pickV (s 29) (s 36) (V.d (.bool false))) (fun x1 =>
K (St.mk (upd s 37 x1) o))) := rfl
@[instance] theorem g_lex_figure_o5_u : UnfAt (opsB C I g_lex_figure.o5 (St.mk s o) K) g_lex_figure_o5_sh := Unf.of _
theorem g_lex_figure_o4_sh : opsB C I (g_lex_figure.o4F R_o5) (St.mk s o) K =
 (guardK (s 29) true
 (demand (pickV (s 32) (V.d (.bool true)) (s 35)) (fun x1 =>
opsB C I R_o5 (St.mk (look [(29, (V.d (D.bool true))), (36, x1)]) (looko ([].map fun n => (n, o n)))) K))
 (opsB C I R_o5 (St.mk (look [(29, (V.d (D.bool false))), (36, (V.tup []))]) (looko ([].map fun n => (n, o n)))) K)
 (opsB C I R_o5 (St.mk (look [(29, (V.tup [])), (36, (V.tup []))]) (looko ([].map fun n => (n, o n)))) K)) := rfl
@[instance] theorem g_lex_figure_o4_u : UnfAt (opsB C I g_lex_figure.o4 (St.mk s o) K) g_lex_figure_o4_sh := Unf.of _
theorem g_lex_figure_o3_sh : opsB C I (g_lex_figure.o3F R_o4) (St.mk s o) K =
 (guardK (s 32) false
 (demand (idxV (s 0) (V.d (.int .i64 0))) (fun x1 =>
demand (binV BinOp.neq x1 (V.d (.int .u8 48))) (fun x2 =>
opsB C I R_o4 (St.mk (look [(29, s 29), (32, (V.d (D.bool false))), (35, x2)]) (looko ([].map fun n => (n, o n)))) K)))
 (opsB C I R_o4 (St.mk (look [(29, s 29), (32, (V.d (D.bool true))), (35, (V.tup []))]) (looko ([].map fun n => (n, o n)))) K)
 (opsB C I R_o4 (St.mk (look [(29, s 29), (32, (V.tup [])), (35, (V.tup []))]) (looko ([].map fun n => (n, o n)))) K)) := rfl
@[instance] theorem g_lex_figure_o3_u : UnfAt (opsB C I g_lex_figure.o3 (St.mk s o) K) g_lex_figure_o3_sh := Unf.of _
theorem g_lex_figure_o2_sh : opsB C I (g_lex_figure.o2F R_o3) (St.mk s o) K =
 (guardK (s 29) true
 (demand (binV BinOp.eql (s 0) (V.d (.str [48]))) (fun x1 =>
opsB C I R_o3 (St.mk (look [(0, s 0), (29, (V.d (D.bool true))), (32, x1)]) (looko ([].map fun n => (n, o n)))) K))
 (opsB C I R_o3 (St.mk (look [(0, s 0), (29, (V.d (D.bool false))), (32, (V.tup []))]) (looko ([].map fun n => (n, o n)))) K)
 (opsB C I R_o3 (St.mk (look [(0, s 0), (29, (V.tup [])), (32, (V.tup []))]) (looko ([].map fun n => (n, o n)))) K)) := rfl
@[instance] theorem g_lex_figure_o2_u : UnfAt (opsB C I g_lex_figure.o2 (St.mk s o) K) g_lex_figure_o2_sh := Unf.of _
theorem g_lex_figure_o1_sh : opsB C I (g_lex_figure.o1F R_o2) (St.mk s o) K =
 (demand (pickV (s 22) (s 27) (V.d (.bool false))) (fun x1 =>
opsB C I R_o2 (St.mk (look [(0, s 0), (29, x1)]) (looko ([].map fun n => (n, o n)))) K)) := rfl
@[instance] theorem g_lex_figure_o1_u : UnfAt (opsB C I g_lex_figure.o1 (St.mk s o) K) g_lex_figure_o1_sh := Unf.of _
theorem g_lex_figure_o0_sh : opsB C I (g_lex_figure.o0F R_o1) (St.mk s o) K =
 (guardK (s 22) true
 (callK C I (St.mk (upd (upd (upd s 22 (V.d (D.bool true))) 23 (s 0)) 22 (V.d (D.bool true))) o) (some 24) 102 [(s 0), (V.d (.int .i64 0)), (V.fn 107 [])] (fun r1 or1 =>
demand (lenSV (s 0)) (fun x2 =>
demand (binV BinOp.eql r1 x2) (fun x3 =>
opsB C I R_o1 (St.mk (look [(0, s 0), (22, (V.d (D.bool true))), (27, x3)]) (looko ([].map fun n => (n, or1 n)))) K))))
 (opsB C I R_o1 (St.mk (look [(0, s 0), (22, (V.d (D.bool false))), (27, (V.tup []))]) (looko ([].map fun n => (n, o n)))) K)
 (opsB C I R_o1 (St.mk (look [(0, s 0), (22, (V.tup [])), (27, (V.tup []))]) (looko ([].map fun n => (n, o n)))) K)) := rfl
@[instance] theorem g_lex_figure_o0_u : UnfAt (opsB C I g_lex_figure.o0 (St.mk s o) K) g_lex_figure_o0_sh := Unf.of _
theorem g_lex_figure_c2_sh : wpB C I (g_lex_figure.c2) (St.mk s o) Q =
 (condK (s 37)
 (Q .ret (St.mk (look [(2, (V.d (.int .i64 2)))]) (looko ([].map fun n => (n, o n)))))
 (Q .normal (St.mk s o))) := rfl
@[instance] theorem g_lex_figure_c2_u : UnfAt (wpB C I g_lex_figure.c2 (St.mk s o) Q) g_lex_figure_c2_sh := Unf.of _
theorem g_lex_figure_c3_sh : wpB C I (g_lex_figure.c3) (St.mk s o) Q =
 (Q .ret (St.mk (look [(2, (V.d (.int .i64 0)))]) (looko ([].map fun n => (n, o n))))) := rfl
@[instance] theorem g_lex_figure_c3_u : UnfAt (wpB C I g_lex_figure.c3 (St.mk s o) Q) g_lex_figure_c3_sh := Unf.of _
theorem g_lex_figure_c4_sh : wpB C I (g_lex_figure.c4F R_o0 R_c2 R_c3) (St.mk s o) Q =
 (demand (lenSV (s 0)) (fun x1 =>
demand (binV BinOp.leq x1 (V.d (.int .i64 9))) (fun x2 =>
opsB C I R_o0 (St.mk (look [(0, s 0), (22, x2)]) (looko ([].map fun n => (n, o n)))) (fun st => (seqK (fun st => wpB C I R_c2 st (seqK (fun st => wpB C I R_c3 st Q) Q)) (seqK (fun st => wpB C I R_c3 st Q) Q)) .normal (St.trim st [37] (some [])))))) := rfl
@[instance] theorem g_lex_figure_c4_u : UnfAt (wpB C I g_lex_figure.c4 (St.mk s o) Q) g_lex_figure_c4_sh := Unf.of _
theorem g_lex_figure_c5_sh : wpB C I (g_lex_figure.c5F R_c1 R_c4) (St.mk s o) Q =
 (callK C I (St.mk (upd s 14 (s 0)) o) (some 15) 92 [(s 0)] (fun r1 or1 =>
demand (extV r1 0) (fun x2 =>
demand (extV r1 1) (fun x3 =>
wpB C I R_c1 (St.mk (look [(0, s 0), (6, x3)]) (looko ([].map fun n => (n, or1 n)))) (seqK (fun st => wpB C I R_c4 st Q) Q))))) := rfl
@[instance] theorem g_lex_figure_c5_u : UnfAt (wpB C I g_lex_figure.c5 (St.mk s o) Q) g_lex_figure_c5_sh := Unf.of _
theorem g_lex_figure_code_sh : wpB C I (g_lex_figure.codeF R_c0 R_c5) (St.mk s o) Q =
 (callK C I (St.mk (upd (look [(0, s 0)]) 8 (s 0)) (looko ([].map fun n => (n, o n)))) (some 9) 51 [(s 0)] (fun r1 or1 =>
demand (extV r1 0) (fun x2 =>
demand (extV r1 1) (fun x3 =>
wpB C I R_c0 (St.mk (look [(0, s 0), (4, x3)]) (looko ([].map fun n => (n, or1 n)))) (seqK (fun st => wpB C I R_c5 st Q) Q))))) := rfl
@[instance] theorem g_lex_figure_code_u : UnfAt (wpB C I g_lex_figure.code (St.mk s o) Q) g_lex_figure_code_sh := Unf.of _
theorem g_lex_sign_c0_sh : wpB C I (g_lex_sign.c0) (St.mk s o) Q =
 (demand (binV BinOp.add (s 7) (V.d (.int .i64 1))) (fun x1 =>
Q .normal (St.mk (look [(0, s 0), (5, s 5), (6, s 6), (7, x1)]) (looko ([].map fun n => (n, o n)))))) := rfl
@[instance] theorem g_lex_sign_c0_u : UnfAt (wpB C I g_lex_sign.c0 (St.mk s o) Q) g_lex_sign_c0_sh := Unf.of _
theorem g_lex_sign_l0_sh (hL : R_l0 = g_lex_sign.l0F R_c0)
 (h : demand (binV BinOp.lss (s 7) (s 6)) (fun x1 =>
condK x1
 (demand (iaddrV (looko ([].map fun n => (n, o n))) 1 (s 5) (s 7)) (fun x2 =>
demand (loadV (looko ([].map fun n => (n, o n))) none x2) (fun x3 =>
callK C I (St.mk (upd (upd (look [(0, s 0), (4, x3), (5, s 5), (6, s 6), (7, s 7)]) 11 (s 0)) 12 x3) (looko ([].map fun n => (n, o n)))) (some 13) 123 [(s 0), x3] (fun r4 or4 =>
condK r4
 (demand (lenSV x3) (fun x5 =>
Q .ret (St.mk (look [(2, x5)]) (looko ([].map fun n => (n, or4 n))))))
 (wpB C I R_c0 (St.mk (look [(0, s 0), (5, s 5), (6, s 6), (7, s 7)]) (looko ([].map fun n => (n, or4 n)))) (seqK (fun s => wpB C I R_l0 s Q) Q))))))
 (Q (.exit 0) (St.mk (look [(0, s 0), (5, s 5), (6, s 6), (7, s 7), (8, x1)]) (looko ([].map fun n => (n, o n))))))) : wpB C I R_l0 (St.mk s o) Q := w_loopC hL h
theorem g_lex_sign_c1_sh : wpB C I (g_lex_sign.c1) (St.mk s o) Q =
 (Q .ret (St.mk (look [(2, (V.d (.int .i64 0)))]) (looko ([].map fun n => (n, o n))))) := rfl
@[instance] theorem g_lex_sign_c1_u : UnfAt (wpB C I g_lex_sign.c1 (St.mk s o) Q) g_lex_sign_c1_sh := Unf.of _
theorem g_lex_sign_c2_sh : wpB C I (g_lex_sign.c2F R_c1) (St.mk s o) Q =
 (demand (idxV (s 0) (V.d (.int .i64 0))) (fun x1 =>
callK C I (St.mk (upd (upd s 17 (s 0)) 18 x1) o) (some 19) 124 [(V.d (.str [61, 60, 62, 43, 45, 42, 40, 41, 44, 59])), x1] (fun r2 or2 =>
demand (binV BinOp.geq r2 (V.d (.int .i64 0))) (fun x3 =>
condK x3
 (Q .ret (St.mk (look [(2, (V.d (.int .i64 1)))]) (looko ([].map fun n => (n, or2 n)))))
 (wpB C I R_c1 (St.mk (look [(20, x3)]) (looko ([].map fun n => (n, or2 n)))) Q))))) := rfl
@[instance] theorem g_lex_sign_c2_u : UnfAt (wpB C I g_lex_sign.c2 (St.mk s o) Q) g_lex_sign_c2_sh := Unf.of _
theorem g_lex_sign_code_sh : wpB C I (g_lex_sign.codeF R_l0 R_c2) (St.mk s o) Q =
 (lstK (partsN 1 [(V.d (.str [60, 61])), (V.d (.str [62, 61])), (V.d (.str [60, 62]))]) (fun es1 =>
demand (lenV (looko ([].map fun n => (n, o n))) (V.d (D.sl es1))) (fun x2 =>
wpB C I R_l0 (St.mk (look [(0, s 0), (5, (V.d (D.sl es1))), (6, x2), (7, (V.d (.int .i64 0)))]) (looko ([].map fun n => (n, o n)))) (blockK 0 [0] (some []) (seqK (fun st => wpB C I R_c2 st Q) Q))))) := rfl
@[instance] theorem g_lex_sign_code_u : UnfAt (wpB C I g_lex_sign.code (St.mk s o) Q) g_lex_sign_code_sh := Unf.of _
theorem g_slices_Index_string_c0_sh : wpB C I (g_slices_Index_string.c0) (St.mk s o) Q =
 (demand (binV BinOp.add (s 8) (V.d (.int .i64 1))) (fun x1 =>
Q .normal (St.mk (look [(0, s 0), (1, s 1), (7, s 7), (8, x1)]) (looko ([].map fun n => (n, o n)))))) := rfl
@[instance] theorem g_slices_Index_string_c0_u : UnfAt (wpB C I g_slices_Index_string.c0 (St.mk s o) Q) g_slices_Index_string_c0_sh := Unf.of _
theorem g_slices_Index_string_l0_sh (hL : R_l0 = g_slices_Index_string.l0F R_c0)
 (h : demand (binV BinOp.lss (s 8) (s 7)) (fun x1 =>
condK x1
 (demand (iaddrV (looko ([].map fun n => (n, o n))) 1 (s 0) (s 8)) (fun x2 =>
demand (loadV (looko ([].map fun n => (n, o n))) none x2) (fun x3 =>
demand (binV BinOp.eql (s 1) x3) (fun x4 =>
condK x4
 (Q .ret (St.mk (look [(4, s 8)]) (looko ([].map fun n => (n, o n)))))
 (wpB C I R_c0 (St.mk (look [(0, s 0), (1, s 1), (7, s 7), (8, s 8)]) (looko ([].map fun n => (n, o n)))) (seqK (fun s => wpB C I R_l0 s Q) Q))))))
 (Q (.exit 0) (St.mk (look [(0, s 0), (1, s 1), (7, s 7), (8, s 8), (9, x1)]) (looko ([].map fun n => (n, o n))))))) : wpB C I R_l0 (St.mk s o) Q := w_loopC hL h
theorem g_slices_Index_string_c1_sh : wpB C I (g_slices_Index_string.c1) (St.mk s o) Q =
 (Q .ret (St.mk (look [(4, (V.d (.int .i64 (-1))))]) (looko ([].map fun n => (n, o n))))) := rfl
@[instance] theorem g_slices_Index_string_c1_u : UnfAt (wpB C I g_slices_Index_string.c1 (St.mk s o) Q) g_slices_Index_string_c1_sh := Unf.of _
theorem g_slices_Index_string_code_sh : wpB C I (g_slices_Index_string.codeF R_l0 R_c1) (St.mk s o) Q =
 (demand (lenV (looko ([].map fun n => (n, o n))) (s 0)) (fun x1 =>
wpB C I R_l0 (St.mk (look [(0, s 0), (1, s 1), (7, x1), (8, (V.d (.int .i64 0)))]) (looko ([].map fun n => (n, o n)))) (blockK 0 [] (some []) (seqK (fun st => wpB C I R_c1 st Q) Q)))) := rfl
@[instance] theorem g_slices_Index_string_code_u : UnfAt (wpB C I g_slices_Index_string.code (St.mk s o) Q) g_slices_Index_string_code_sh := Unf.of _
theorem g_tree_parser_put_t5_sh : treeB C I g_tree_parser_put.a0 (.one 12 .done) (St.mk s o) K =
 ((([] : List Nat) = [] ∧ (storeK (s 16) (cellsV (s 13)) 1 o (fun m1 ob2 =>
K (St.mk s (upd o m1 (some ob2))))))) := rfl
@[instance] theorem g_tree_parser_put_t5_u : UnfAt (treeB C I g_tree_parser_put.a0 g_tree_parser_put.t5 (St.mk s o) K) g_tree_parser_put_t5_sh := Unf.of _
theorem g_tree_parser_put_t6_sh : treeB C I g_tree_parser_put.a0 (.one 11 R_t5) (St.mk s o) K =
 ((([] : List Nat) = [] ∧ (demand (faddrV 1 (s 15)) (fun x1 =>
treeB C I g_tree_parser_put.a0 R_t5 (St.mk (upd s 16 x1) o) K)))) := rfl
@[instance] theorem g_tree_parser_put_t6_u : UnfAt (treeB C I g_tree_parser_put.a0 g_tree_parser_put.t6 (St.mk s o) K) g_tree_parser_put_t6_sh := Unf.of _
theorem g_tree_parser_put_t7_sh : treeB C I g_tree_parser_put.a0 (.one 10 R_t6) (St.mk s o) K =
 ((([] : List Nat) = [] ∧ (demand (faddrV 3 (s 14)) (fun x1 =>
treeB C I g_tree_parser_put.a0 R_t6 (St.mk (upd s 15 x1) o) K)))) := rfl
@[instance] theorem g_tree_parser_put_t7_u : UnfAt (treeB C I g_tree_parser_put.a0 g_tree_parser_put.t7 (St.mk s o) K) g_tree_parser_put_t7_sh := Unf.of _
theorem g_tree_parser_put_t8_sh : treeB C I g_tree_parser_put.a0 (.one 9 R_t7) (St.mk s o) K =
 ((([] : List Nat) = [] ∧ (demand (nilcV (s 5)) (fun x1 =>
treeB C I g_tree_parser_put.a0 R_t7 (St.mk (upd s 14 x1) o) K)))) := rfl
@[instance] theorem g_tree_parser_put_t8_u : UnfAt (treeB C I g_tree_parser_put.a0 g_tree_parser_put.t8 (St.mk s o) K) g_tree_parser_put_t8_sh := Unf.of _
theorem g_tree_parser_put_t9_sh : treeB C I g_tree_parser_put.a0 (.one 8 R_t8) (St.mk s o) K =
 ((([] : List Nat) = [] ∧ (lstK (readD o (s 12)) (fun ys1 => (∀ e ∈ ys1, e.length = 6) ∧ appK (s 10)
 (ys1.length * 64 ≤ 140737488355328 ∧ ys1.length ≤ 140737488355328 ∧ ¬ I 13 ∧ Fresh (St.mk s o) 13 (some 13) ∧
treeB C I g_tree_parser_put.a0 R_t8 (St.mk (upd s 13 (V.own 13)) (upd o 13 (some (Ob.row 6 ys1)))) K)
 (fun m2 => ¬ I m2 ∧ rowK (o m2) (fun z3 es4 => z3 = 6 ∧ (es4.length + ys1.length) * 64 ≤ 140737488355328 ∧ es4.length + ys1.length ≤ 140737488355328 ∧
treeB C I g_tree_parser_put.a0 R_t8 (St.mk (upd (fun t => scrubV m2 (s t)) 13 (V.own m2)) (upd (fun n => (o n).map (Ob.scrub m2)) m2 (some (Ob.row 6 (es4 ++ ys1))))) K)))))) := rfl
@[instance] theorem g_tree_parser_put_t9_u : UnfAt (treeB C I g_tree_parser_put.a0 g_tree_parser_put.t9 (St.mk s o) K) g_tree_parser_put_t9_sh := Unf.of _
theorem g_tree_parser_put_t10_sh : treeB C I g_tree_parser_put.a0 (.one 7 R_t9) (St.mk s o) K =
 ((([] : List Nat) = [] ∧ (lstK (partsN 6 [(s 11)]) (fun es1 =>
treeB C I g_tree_parser_put.a0 R_t9 (St.mk (upd s 12 (V.d (D.sl es1))) o) K)))) := rfl
@[instance] theorem g_tree_parser_put_t10_u : UnfAt (treeB C I g_tree_parser_put.a0 g_tree_parser_put.t10 (St.mk s o) K) g_tree_parser_put_t10_sh := Unf.of _
theorem g_tree_parser_put_t11_sh : treeB C I g_tree_parser_put.a0 (.one 6 R_t10) (St.mk s o) K =
 ((([] : List Nat) = [] ∧ (demand (loadV o (some 6) (s 3)) (fun x1 =>
treeB C I g_tree_parser_put.a0 R_t10 (St.mk (upd s 11 x1) o) K)))) := rfl
@[instance] theorem g_tree_parser_put_t11_u : UnfAt (treeB C I g_tree_parser_put.a0 g_tree_parser_put.t11 (St.mk s o) K) g_tree_parser_put_t11_sh := Unf.of _
theorem g_tree_parser_put_t12_sh : treeB C I g_tree_parser_put.a0 (.one 5 R_t9) (St.mk s o) K =
 ((([] : List Nat) = [] ∧ (demand (loadV o none (s 9)) (fun x1 =>
treeB C I g_tree_parser_put.a0 R_t9 (St.mk (upd s 10 x1) o) K)))) := rfl
@[instance] theorem g_tree_parser_put_t12_u : UnfAt (treeB C I g_tree_parser_put.a0 g_tree_parser_put.t12 (St.mk s o) K) g_tree_parser_put_t12_sh := Unf.of _
theorem g_tree_parser_put_t13_sh : treeB C I g_tree_parser_put.a0 (.one 7 R_t12) (St.mk s o) K =
 ((([] : List Nat) = [] ∧ (lstK (partsN 6 [(s 11)]) (fun es1 =>
treeB C I g_tree_parser_put.a0 R_t12 (St.mk (upd s 12 (V.d (D.sl es1))) o) K)))) := rfl
@[instance] theorem g_tree_parser_put_t13_u : UnfAt (treeB C I g_tree_parser_put.a0 g_tree_parser_put.t13 (St.mk s o) K) g_tree_parser_put_t13_sh := Unf.of _
theorem g_tree_parser_put_t14_sh : treeB C I g_tree_parser_put.a0 (.two 5 R_t10 R_t13) (St.mk s o) K =
 ((([] : List Nat) = [] ∧ (demand (loadV o none (s 9)) (fun x1 =>
treeB C I g_tree_parser_put.a0 R_t10 (St.mk (upd s 10 x1) o) K))) ∧ treeB C I g_tree_parser_put.a0 R_t13 (St.mk s o) K) := rfl
@[instance] theorem g_tree_parser_put_t14_u : UnfAt (treeB C I g_tree_parser_put.a0 g_tree_parser_put.t14 (St.mk s o) K) g_tree_parser_put_t14_sh := Unf.of _
theorem g_tree_parser_put_t15_sh : treeB C I g_tree_parser_put.a0 (.one 6 R_t14) (St.mk s o) K =
 ((([] : List Nat) = [] ∧ (demand (loadV o (some 6) (s 3)) (fun x1 =>
treeB C I g_tree_parser_put.a0 R_t14 (St.mk (upd s 11 x1) o) K)))) := rfl
@[instance] theorem g_tree_parser_put_t15_u : UnfAt (treeB C I g_tree_parser_put.a0 g_tree_parser_put.t15 (St.mk s o) K) g_tree_parser_put_t15_sh := Unf.of _
theorem g_tree_parser_put_t16_sh : treeB C I g_tree_parser_put.a0 (.two 5 R_t11 R_t15) (St.mk s o) K =
 ((([] : List Nat) = [] ∧ (demand (loadV o none (s 9)) (fun x1 =>
treeB C I g_tree_parser_put.a0 R_t11 (St.mk (upd s 10 x1) o) K))) ∧ treeB C I g_tree_parser_put.a0 R_t15 (St.mk s o) K) := rfl
@[instance] theorem g_tree_parser_put_t16_u : UnfAt (treeB C I g_tree_parser_put.a0 g_tree_parser_put.t16 (St.mk s o) K) g_tree_parser_put_t16_sh := Unf.of _
theorem g_tree_parser_put_i4_sh : drawB C I g_tree_parser_put.a0 (4 :: []) R_t16 (St.mk s o) K =
 ((s 9) = V.undef ∧ (demand (faddrV 1 (s 8)) (fun x1 => quietV o (x1 :: [(s 8)]) ∧
treeB C I g_tree_parser_put.a0 R_t16 (St.mk (upd s 9 x1) o) K))) := rfl
@[instance] theorem g_tree_parser_put_i4_u : UnfAt (drawB C I g_tree_parser_put.a0 g_tree_parser_put.i4 g_tree_parser_put.t16 (St.mk s o) K) g_tree_parser_put_i4_sh := Unf.of _
theorem g_tree_parser_put_i3_sh : drawB C I g_tree_parser_put.a0 (3 :: R_i4) R_t16 (St.mk s o) K =
 ((s 8) = V.undef ∧ (demand (faddrV 3 (s 7)) (fun x1 => quietV o (x1 :: [(s 7)]) ∧
drawB C I g_tree_parser_put.a0 R_i4 R_t16 (St.mk (upd s 8 x1) o) K))) := rfl
@[instance] theorem g_tree_parser_put_i3_u : UnfAt (drawB C I g_tree_parser_put.a0 g_tree_parser_put.i3 g_tree_parser_put.t16 (St.mk s o) K) g_tree_parser_put_i3_sh := Unf.of _
theorem g_tree_parser_put_i2_sh : drawB C I g_tree_parser_put.a0 (2 :: R_i3) R_t16 (St.mk s o) K =
 ((s 7) = V.undef ∧ (demand (nilcV (s 6)) (fun x1 => quietV o (x1 :: [(s 6)]) ∧
drawB C I g_tree_parser_put.a0 R_i3 R_t16 (St.mk (upd s 7 x1) o) K))) := rfl
@[instance] theorem g_tree_parser_put_i2_u : UnfAt (drawB C I g_tree_parser_put.a0 g_tree_parser_put.i2 g_tree_parser_put.t16 (St.mk s o) K) g_tree_parser_put_i2_sh := Unf.of _
theorem g_tree_parser_put_i1_sh : drawB C I g_tree_parser_put.a0 (1 :: R_i2) R_t16 (St.mk s o) K =
 ((s 6) = V.undef ∧ (quietV o ((s 0) :: [(s 0)]) ∧
drawB C I g_tree_parser_put.a0 R_i2 R_t16 (St.mk (upd s 6 (s 0)) o) K)) := rfl
@[instance] theorem g_tree_parser_put_i1_u : UnfAt (drawB C I g_tree_parser_put.a0 g_tree_parser_put.i1 g_tree_parser_put.t16 (St.mk s o) K) g_tree_parser_put_i1_sh := Unf.of _
theorem g_tree_parser_put_c0_sh : wpB C I (g_tree_parser_put.c0) (St.mk s o) Q =
 (demand (nilcV (s 0)) (fun x1 =>
demand (faddrV 3 x1) (fun x2 =>
demand (faddrV 1 x2) (fun x3 =>
demand (loadV o none x3) (fun x4 =>
demand (lenV o x4) (fun x5 =>
demand (binV BinOp.sub x5 (V.d (.int .i64 1))) (fun x6 =>
Q .ret (St.mk (look [(4, x6)]) o)))))))) := rfl
@[instance] theorem g_tree_parser_put_c0_u : UnfAt (wpB C I g_tree_parser_put.c0 (St.mk s o) Q) g_tree_parser_put_c0_sh := Unf.of _
theorem g_tree_parser_put_code_sh : wpB C I (g_tree_parser_put.codeF R_i1 R_t16 R_c0) (St.mk s o) Q =
 (lstK (cellsV (s 1)) (fun c1 => c1.length = 6 ∧ ¬ I 3 ∧ Fresh (St.mk s o) 3 (some 3) ∧ V.refsL 3 c1 = false ∧
V.undef = V.undef ∧ (quietV (upd o 3 (some (Ob.box c1))) ((s 0) :: [(s 0)]) ∧
drawB C I g_tree_parser_put.a0 R_i1 R_t16 (St.mk (upd (look [(0, s 0), (3, (V.ptr 3 0))]) 5 (s 0)) (upd o 3 (some (Ob.box c1)))) (fun st => (seqK (fun st => wpB C I R_c0 st Q) Q) .normal (St.trim st [0] none))))) := rfl
@[instance] theorem g_tree_parser_put_code_u : UnfAt (wpB C I g_tree_parser_put.code (St.mk s o) Q) g_tree_parser_put_code_sh := Unf.of _
theorem g_tree_parser_sum_c0_sh : wpB C I (g_tree_parser_sum.c0) (St.mk s o) Q =
 (demand ((buildN [V.d (.str []), V.d (.str []), V.d (.int .i64 0), V.d (.int .i64 0), V.d (.int .i64 0), V.d (.int .i64 0)] [(0, 1, (s 6)), (3, 1, (s 5)), (4, 1, (s 8))]).map V.agg) (fun x1 =>
callK C I (St.mk (upd (upd (upd (upd (upd s 24 (s 0)) 25 (s 6)) 26 (s 5)) 27 (s 8)) 28 x1) o) (some 29) 222 [(s 0), x1] (fun r2 or2 =>
Q .normal (St.mk (look [(0, s 0), (1, s 1), (5, r2)]) or2)))) := rfl
@[instance] theorem g_tree_parser_sum_c0_u : UnfAt (wpB C I g_tree_parser_sum.c0 (St.mk s o) Q) g_tree_parser_sum_c0_sh := Unf.of _
theorem g_tree_parser_sum_c1_sh : wpB C I (g_tree_parser_sum.c1F R_c0) (St.mk s o) Q =
 (callK C I (St.mk (upd (upd s 21 (s 0)) 22 (s 1)) o) (some 23) 224 [(s 0), (s 1)] (fun r1 or1 =>
wpB C I R_c0 (St.mk (look [(0, s 0), (1, s 1), (5, s 5), (6, s 6), (8, r1)]) or1) Q)) := rfl
@[instance] theorem g_tree_parser_sum_c1_u : UnfAt (wpB C I g_tree_parser_sum.c1 (St.mk s o) Q) g_tree_parser_sum_c1_sh := Unf.of _
theorem g_tree_parser_sum_c2_sh : wpB C I (g_tree_parser_sum.c2F R_c1) (St.mk s o) Q =
 (demand (unV UnOp.not (s 7)) (fun x1 =>
condK x1
 (Q .ret (St.mk (look [(4, s 5)]) o))
 (wpB C I R_c1 (St.mk (look [(0, s 0), (1, s 1), (5, s 5), (6, s 6), (19, x1)]) o) Q))) := rfl
@[instance] theorem g_tree_parser_sum_c2_u : UnfAt (wpB C I g_tree_parser_sum.c2 (St.mk s o) Q) g_tree_parser_sum_c2_sh := Unf.of _
theorem g_tree_parser_sum_l0_sh (hL : R_l0 = g_tree_parser_sum.l0F R_c2)
 (h : lstK (partsN 1 [(V.d (.str [43])), (V.d (.str [45]))]) (fun es1 =>
callK C I (St.mk (upd (upd (look [(0, s 0), (1, s 1), (5, s 5)]) 13 (s 0)) 14 (V.d (D.sl es1))) o) (some 15) 219 [(s 0), (V.d (D.sl es1))] (fun r2 or2 =>
demand (extV r2 0) (fun x3 =>
demand (extV r2 1) (fun x4 =>
wpB C I R_c2 (St.mk (look [(0, s 0), (1, s 1), (5, s 5), (6, x3), (7, x4)]) or2) (blockK 1 [0, 1, 5] none (seqK (fun s => wpB C I R_l0 s Q) Q))))))) : wpB C I R_l0 (St.mk s o) Q := w_loopC hL h
theorem g_tree_parser_sum_c3_sh : wpB C I (g_tree_parser_sum.c3F R_l0) (St.mk s o) Q =
 (wpB C I R_l0 (St.mk s o) (blockK 0 [4] none Q)) := rfl
@[instance] theorem g_tree_parser_sum_c3_u : UnfAt (wpB C I g_tree_parser_sum.c3 (St.mk s o) Q) g_tree_parser_sum_c3_sh := Unf.of _
theorem g_tree_parser_sum_code_sh : wpB C I (g_tree_parser_sum.codeF R_c3) (St.mk s o) Q =
 (callK C I (St.mk (upd (upd (look [(0, s 0), (1, s 1)]) 9 (s 0)) 10 (s 1)) o) (some 11) 224 [(s 0), (s 1)] (fun r1 or1 =>
wpB C I R_c3 (St.mk (look [(0, s 0), (1, s 1), (5, r1)]) or1) Q)) := rfl
@[instance] theorem g_tree_parser_sum_code_u : UnfAt (wpB C I g_tree_parser_sum.code (St.mk s o) Q) g_tree_parser_sum_code_sh := Unf.of _
theorem g_show_leaf_c0_sh : wpB C I (g_show_leaf.c0) (St.mk s o) Q =
 (Q .ret (St.mk (look [(2, s 3)]) (looko ([].map fun n => (n, o n))))) := rfl
@[instance] theorem g_show_leaf_c0_u : UnfAt (wpB C I g_show_leaf.c0 (St.mk s o) Q) g_show_leaf_c0_sh := Unf.of _
theorem g_show_leaf_code_sh : wpB C I (g_show_leaf.codeF R_c0) (St.mk s o) Q =
 (lstK (cellsV (s 0)) (fun c1 => c1.length = 6 ∧ ¬ I 1 ∧ Fresh (St.mk s o) 1 (some 1) ∧ V.refsL 1 c1 = false ∧
demand (faddrV 0 (V.ptr 1 0)) (fun x2 =>
demand (loadV (looko ([1].map fun n => (n, (upd o 1 (some (Ob.box c1))) n))) none x2) (fun x3 =>
demand (binV BinOp.eql x3 (V.d (.str [119, 104, 111, 108, 101]))) (fun x4 =>
condK x4
 (demand (faddrV 2 (V.ptr 1 0)) (fun x5 =>
demand (loadV (looko ([1].map fun n => (n, (upd o 1 (some (Ob.box c1))) n))) none x5) (fun x6 =>
callK C I (St.mk (upd (upd (look [(1, (V.ptr 1 0)), (3, (V.d (.str []))), (5, x3), (6, x4)]) 8 x5) 9 x6) (looko ([1].map fun n => (n, (upd o 1 (some (Ob.box c1))) n)))) (some 10) 68 [x6] (fun r7 or7 =>
wpB C I R_c0 (St.mk (look [(3, r7)]) (looko ([].map fun n => (n, or7 n)))) Q))))
 (demand (binV BinOp.eql x3 (V.d (.str [97, 109, 111, 117, 110, 116]))) (fun x8 =>
condK x8
 (demand (faddrV 2 (V.ptr 1 0)) (fun x9 =>
demand (loadV (looko ([1].map fun n => (n, (upd o 1 (some (Ob.box c1))) n))) none x9) (fun x10 =>
callK C I (St.mk (upd (upd (look [(1, (V.ptr 1 0)), (3, (V.d (.str []))), (5, x3), (11, x8)]) 14 x9) 15 x10) (looko ([1].map fun n => (n, (upd o 1 (some (Ob.box c1))) n)))) (some 16) 50 [x10] (fun r11 or11 =>
demand (extV r11 0) (fun x12 =>
demand (extV r11 1) (fun x13 =>
wpB C I R_c0 (St.mk (look [(3, x12)]) (looko ([].map fun n => (n, or11 n)))) Q))))))
 (demand (binV BinOp.eql x3 (V.d (.str [114, 97, 116, 101]))) (fun x14 =>
condK x14
 (demand (faddrV 2 (V.ptr 1 0)) (fun x15 =>
demand (loadV (looko ([1].map fun n => (n, (upd o 1 (some (Ob.box c1))) n))) none x15) (fun x16 =>
callK C I (St.mk (upd (upd (look [(1, (V.ptr 1 0)), (3, (V.d (.str []))), (5, x3), (19, x14)]) 22 x15) 23 x16) (looko ([1].map fun n => (n, (upd o 1 (some (Ob.box c1))) n)))) (some 24) 91 [x16] (fun r17 or17 =>
demand (extV r17 0) (fun x18 =>
demand (extV r17 1) (fun x19 =>
wpB C I R_c0 (St.mk (look [(3, x18)]) (looko ([].map fun n => (n, or17 n)))) Q))))))
 (demand (binV BinOp.eql x3 (V.d (.str [110, 97, 109, 101]))) (fun x20 =>
condK x20
 (demand (faddrV 1 (V.ptr 1 0)) (fun x21 =>
demand (loadV (looko ([1].map fun n => (n, (upd o 1 (some (Ob.box c1))) n))) none x21) (fun x22 =>
wpB C I R_c0 (St.mk (look [(3, x22)]) (looko ([].map fun n => (n, (upd o 1 (some (Ob.box c1))) n)))) Q)))
 (wpB C I R_c0 (St.mk (look [(3, (V.d (.str [])))]) (looko ([].map fun n => (n, (upd o 1 (some (Ob.box c1))) n)))) Q)))))))))))) := rfl
@[instance] theorem g_show_leaf_code_u : UnfAt (wpB C I g_show_leaf.code (St.mk s o) Q) g_show_leaf_code_sh := Unf.of _
theorem g_money_Parse_o1_sh : opsB C I (g_money_Parse.o1) (St.mk s o) K =
 (demand (pickV (s 16) (V.d (.bool true)) (s 19)) (fun x1 =>
K (St.mk (upd s 20 x1) o))) := rfl
@[instance] theorem g_money_Parse_o1_u : UnfAt (opsB C I g_money_Parse.o1 (St.mk s o) K) g_money_Parse_o1_sh := Unf.of _
theorem g_money_Parse_o0_sh : opsB C I (g_money_Parse.o0F R_o1) (St.mk s o) K =
 (guardK (s 16) false
 (callK C I (St.mk (upd (upd (upd s 16 (V.d (D.bool false))) 17 (s 4)) 16 (V.d (D.bool false))) o) (some 18) 58 [(s 4)] (fun r1 or1 =>
demand (unV UnOp.not r1) (fun x2 =>
opsB C I R_o1 (St.mk (look [(0, s 0), (4, s 4), (16, (V.d (D.bool false))), (19, x2)]) (looko ([].map fun n => (n, or1 n)))) K)))
 (opsB C I R_o1 (St.mk (look [(0, s 0), (4, s 4), (16, (V.d (D.bool true))), (19, (V.tup []))]) (looko ([].map fun n => (n, o n)))) K)
 (opsB C I R_o1 (St.mk (look [(0, s 0), (4, s 4), (16, (V.tup [])), (19, (V.tup []))]) (looko ([].map fun n => (n, o n)))) K)) := rfl
@[instance] theorem g_money_Parse_o0_u : UnfAt (opsB C I g_money_Parse.o0 (St.mk s o) K) g_money_Parse_o0_sh := Unf.of _
theorem g_money_Parse_c0_sh : wpB C I (g_money_Parse.c0) (St.mk s o) Q =
 (condK (s 20)
 (Q .ret (St.mk (look [(2, (V.d (.int .i64 0))), (3, (V.d (.bool false)))]) (looko ([].map fun n => (n, o n)))))
 (Q .normal (St.mk s o))) := rfl
@[instance] theorem g_money_Parse_c0_u : UnfAt (wpB C I g_money_Parse.c0 (St.mk s o) Q) g_money_Parse_c0_sh := Unf.of _
theorem g_money_Parse_c1_sh : wpB C I (g_money_Parse.c1) (St.mk s o) Q =
 (demand (binV BinOp.neq (s 6) (s 0)) (fun x1 =>
condK x1
 (Q .ret (St.mk (look [(2, (V.d (.int .i64 0))), (3, (V.d (.bool false)))]) (looko ([].map fun n => (n, o n)))))
 (Q .normal (St.mk (look [(4, s 4), (28, x1)]) (looko ([].map fun n => (n, o n))))))) := rfl
@[instance] theorem g_money_Parse_c1_u : UnfAt (wpB C I g_money_Parse.c1 (St.mk s o) Q) g_money_Parse_c1_sh := Unf.of _
theorem g_money_Parse_c2_sh : wpB C I (g_money_Parse.c2) (St.mk s o) Q =
 (Q .ret (St.mk (look [(2, s 4), (3, (V.d (.bool true)))]) (looko ([].map fun n => (n, o n))))) := rfl
@[instance] theorem g_money_Parse_c2_u : UnfAt (wpB C I g_money_Parse.c2 (St.mk s o) Q) g_money_Parse_c2_sh := Unf.of _
theorem g_money_Parse_c3_sh : wpB C I (g_money_Parse.c3F R_c1 R_c2) (St.mk s o) Q =
 (callK C I (St.mk (upd s 22 (s 4)) o) (some 23) 50 [(s 4)] (fun r1 or1 =>
demand (extV r1 0) (fun x2 =>
demand (extV r1 1) (fun x3 =>
wpB C I R_c1 (St.mk (look [(0, s 0), (4, s 4), (6, x2)]) (looko ([].map fun n => (n, or1 n)))) (seqK (fun st => wpB C I R_c2 st Q) Q))))) := rfl
@[instance] theorem g_money_Parse_c3_u : UnfAt (wpB C I g_money_Parse.c3 (St.mk s o) Q) g_money_Parse_c3_sh := Unf.of _
theorem g_money_Parse_c4_sh : wpB C I (g_money_Parse.c4F R_o0 R_c0 R_c3) (St.mk s o) Q =
 (demand (nilEV true (s 5)) (fun x1 =>
opsB C I R_o0 (St.mk (look [(0, s 0), (4, s 4), (16, x1)]) (looko ([].map fun n => (n, o n)))) (fun st => (seqK (fun st => wpB C I R_c0 st (seqK (fun st => wpB C I R_c3 st Q) Q)) (seqK (fun st => wpB C I R_c3 st Q) Q)) .normal (St.trim st [0, 4, 20] (some []))))) := rfl
@[instance] theorem g_money_Parse_c4_u : UnfAt (wpB C I g_money_Parse.c4 (St.mk s o) Q) g_money_Parse_c4_sh := Unf.of _
theorem g_money_Parse_code_sh : wpB C I (g_money_Parse.codeF R_c4) (St.mk s o) Q =
 (callK C I (St.mk (upd (look [(0, s 0)]) 9 (s 0)) (looko ([].map fun n => (n, o n)))) (some 10) 69 [(s 0), (V.d (.str [46])), (V.d (.str [])), (V.d (.int .i64 1))] (fun r1 or1 =>
callK C I (St.mk (upd (upd (look [(0, s 0)]) 9 (s 0)) 10 r1) or1) (some 11) 70 [r1] (fun r2 or2 =>
demand (extV r2 0) (fun x3 =>
demand (extV r2 1) (fun x4 =>
wpB C I R_c4 (St.mk (look [(0, s 0), (4, x3), (5, x4)]) (looko ([].map fun n => (n, or2 n)))) Q))))) := rfl
@[instance] theorem g_money_Parse_code_u : UnfAt (wpB C I g_money_Parse.code (St.mk s o) Q) g_money_Parse_code_sh := Unf.of _
theorem g_rate_Parse_o3_sh : opsB C I (g_rate_Parse.o3) (St.mk s o) K =
 (demand (pickV (s 24) (V.d (.bool true)) (s 27)) (fun x1 =>
K (St.mk (upd s 28 x1) o))) := rfl
@[instance] theorem g_rate_Parse_o3_u : UnfAt (opsB C I g_rate_Parse.o3 (St.mk s o) K) g_rate_Parse_o3_sh := Unf.of _
theorem g_rate_Parse_o2_sh : opsB C I (g_rate_Parse.o2F R_o3) (St.mk s o) K =
 (guardK (s 24) false
 (callK C I (St.mk (upd (upd (upd s 24 (V.d (D.bool false))) 25 (s 6)) 24 (V.d (D.bool false))) o) (some 26) 88 [(s 6)] (fun r1 or1 =>
demand (unV UnOp.not r1) (fun x2 =>
opsB C I R_o3 (St.mk (look [(6, s 6), (24, (V.d (D.bool false))), (27, x2)]) (looko ([].map fun n => (n, or1 n)))) K)))
 (opsB C I R_o3 (St.mk (look [(6, s 6), (24, (V.d (D.bool true))), (27, (V.tup []))]) (looko ([].map fun n => (n, o n)))) K)
 (opsB C I R_o3 (St.mk (look [(6, s 6), (24, (V.tup [])), (27, (V.tup []))]) (looko ([].map fun n => (n, o n)))) K)) := rfl
@[instance] theorem g_rate_Parse_o2_u : UnfAt (opsB C I g_rate_Parse.o2 (St.mk s o) K) g_rate_Parse_o2_sh := Unf.of _
theorem g_rate_Parse_o1_sh : opsB C I (g_rate_Parse.o1F R_o2) (St.mk s o) K =
 (demand (pickV (s 20) (V.d (.bool true)) (s 22)) (fun x1 =>
opsB C I R_o2 (St.mk (look [(6, s 6), (24, x1)]) (looko ([].map fun n => (n, o n)))) K)) := rfl
@[instance] theorem g_rate_Parse_o1_u : UnfAt (opsB C I g_rate_Parse.o1 (St.mk s o) K) g_rate_Parse_o1_sh := Unf.of _
theorem g_rate_Parse_o0_sh : opsB C I (g_rate_Parse.o0F R_o1) (St.mk s o) K =
 (guardK (s 20) false
 (demand (unV UnOp.not (s 7)) (fun x1 =>
opsB C I R_o1 (St.mk (look [(6, s 6), (20, (V.d (D.bool false))), (22, x1)]) (looko ([].map fun n => (n, o n)))) K))
 (opsB C I R_o1 (St.mk (look [(6, s 6), (20, (V.d (D.bool true))), (22, (V.tup []))]) (looko ([].map fun n => (n, o n)))) K)
 (opsB C I R_o1 (St.mk (look [(6, s 6), (20, (V.tup [])), (22, (V.tup []))]) (looko ([].map fun n => (n, o n)))) K)) := rfl
@[instance] theorem g_rate_Parse_o0_u : UnfAt (opsB C I g_rate_Parse.o0 (St.mk s o) K) g_rate_Parse_o0_sh := Unf.of _
theorem g_rate_Parse_c0_sh : wpB C I (g_rate_Parse.c0) (St.mk s o) Q =
 (condK (s 28)
 (Q .ret (St.mk (look [(2, (V.d (.int .i64 0))), (3, (V.d (.bool false)))]) (looko ([].map fun n => (n, o n)))))
 (Q .normal (St.mk s o))) := rfl
@[instance] theorem g_rate_Parse_c0_u : UnfAt (wpB C I g_rate_Parse.c0 (St.mk s o) Q) g_rate_Parse_c0_sh := Unf.of _
theorem g_rate_Parse_c1_sh : wpB C I (g_rate_Parse.c1) (St.mk s o) Q =
 (Q .ret (St.mk (look [(2, s 6), (3, (V.d (.bool true)))]) (looko ([].map fun n => (n, o n))))) := rfl
@[instance] theorem g_rate_Parse_c1_u : UnfAt (wpB C I g_rate_Parse.c1 (St.mk s o) Q) g_rate_Parse_c1_sh := Unf.of _
theorem g_rate_Parse_c2_sh : wpB C I (g_rate_Parse.c2F R_o0 R_c0 R_c1) (St.mk s o) Q =
 (demand (unV UnOp.not (s 5)) (fun x1 =>
opsB C I R_o0 (St.mk (look [(6, s 6), (7, s 7), (20, x1)]) (looko ([].map fun n => (n, o n)))) (fun st => (seqK (fun st => wpB C I R_c0 st (seqK (fun st => wpB C I R_c1 st Q) Q)) (seqK (fun st => wpB C I R_c1 st Q) Q)) .normal (St.trim st [6, 28] (some []))))) := rfl
@[instance] theorem g_rate_Parse_c2_u : UnfAt (wpB C I g_rate_Parse.c2 (St.mk s o) Q) g_rate_Parse_c2_sh := Unf.of _
theorem g_rate_Parse_c3_sh : wpB C I (g_rate_Parse.c3F R_c2) (St.mk s o) Q =
 (callK C I (St.mk (upd s 14 (s 4)) o) (some 15) 51 [(s 4)] (fun r1 or1 =>
demand (extV r1 0) (fun x2 =>
demand (extV r1 1) (fun x3 =>
wpB C I R_c2 (St.mk (look [(5, s 5), (6, x2), (7, x3)]) (looko ([].map fun n => (n, or1 n)))) Q)))) := rfl
@[instance] theorem g_rate_Parse_c3_u : UnfAt (wpB C I g_rate_Parse.c3 (St.mk s o) Q) g_rate_Parse_c3_sh := Unf.of _
theorem g_rate_Parse_code_sh : wpB C I (g_rate_Parse.codeF R_c3) (St.mk s o) Q =
 (callK C I (St.mk (upd (look [(0, s 0)]) 9 (s 0)) (looko ([].map fun n => (n, o n)))) (some 10) 101 [(s 0), (V.d (.str [37]))] (fun r1 or1 =>
demand (extV r1 0) (fun x2 =>
demand (extV r1 1) (fun x3 =>
wpB C I R_c3 (St.mk (look [(4, x2), (5, x3)]) (looko ([].map fun n => (n, or1 n)))) Q)))) := rfl
@[instance] theorem g_rate_Parse_code_u : UnfAt (wpB C I g_rate_Parse.code (St.mk s o) Q) g_rate_Parse_code_sh := Unf.of _
theorem g_strings_HasPrefix_code_sh : wpB C I (g_strings_HasPrefix.code) (St.mk s o) Q =
 (callK C I (St.mk (upd (upd (look [(0, s 0), (1, s 1)]) 5 (s 0)) 6 (s 1)) (looko ([].map fun n => (n, o n)))) (some 7) 131 [(s 0), (s 1)] (fun r1 or1 =>
Q .ret (St.mk (look [(4, r1)]) (looko ([].map fun n => (n, or1 n)))))) := rfl
@[instance] theorem g_strings_HasPrefix_code_u : UnfAt (wpB C I g_strings_HasPrefix.code (St.mk s o) Q) g_strings_HasPrefix_code_sh := Unf.of _
theorem g_tree_parser_product_c0_sh : wpB C I (g_tree_parser_product.c0) (St.mk s o) Q =
 (demand (unV UnOp.not (s 7)) (fun x1 =>
condK x1
 (Q .ret (St.mk (look [(4, s 5)]) o))
 (Q .normal (St.mk (look [(0, s 0), (1, s 1), (5, s 5), (19, x1)]) o)))) := rfl
@[instance] theorem g_tree_parser_product_c0_u : UnfAt (wpB C I g_tree_parser_product.c0 (St.mk s o) Q) g_tree_parser_product_c0_sh := Unf.of _
theorem g_tree_parser_product_c1_sh : wpB C I (g_tree_parser_product.c1) (St.mk s o) Q =
 (demand ((buildN [V.d (.str []), V.d (.str []), V.d (.int .i64 0), V.d (.int .i64 0), V.d (.int .i64 0), V.d (.int .i64 0)] [(0, 1, (V.d (.str [42]))), (3, 1, (s 5)), (4, 1, (s 8))]).map V.agg) (fun x1 =>
callK C I (St.mk (upd (upd (upd (upd s 24 (s 0)) 25 (s 5)) 26 (s 8)) 27 x1) o) (some 28) 222 [(s 0), x1] (fun r2 or2 =>
Q .normal (St.mk (look [(0, s 0), (1, s 1), (5, r2)]) or2)))) := rfl
@[instance] theorem g_tree_parser_product_c1_u : UnfAt (wpB C I g_tree_parser_product.c1 (St.mk s o) Q) g_tree_parser_product_c1_sh := Unf.of _
theorem g_tree_parser_product_c2_sh : wpB C I (g_tree_parser_product.c2F R_c1) (St.mk s o) Q =
 (callK C I (St.mk (upd (upd s 21 (s 0)) 22 (s 1)) o) (some 23) 225 [(s 0), (s 1)] (fun r1 or1 =>
wpB C I R_c1 (St.mk (look [(0, s 0), (1, s 1), (5, s 5), (8, r1)]) or1) Q)) := rfl
@[instance] theorem g_tree_parser_product_c2_u : UnfAt (wpB C I g_tree_parser_product.c2 (St.mk s o) Q) g_tree_parser_product_c2_sh := Unf.of _
theorem g_tree_parser_product_l0_sh (hL : R_l0 = g_tree_parser_product.l0F R_c0 R_c2)
 (h : lstK (partsN 1 [(V.d (.str [42]))]) (fun es1 =>
callK C I (St.mk (upd (upd (look [(0, s 0), (1, s 1), (5, s 5)]) 13 (s 0)) 14 (V.d (D.sl es1))) o) (some 15) 219 [(s 0), (V.d (D.sl es1))] (fun r2 or2 =>
demand (extV r2 0) (fun x3 =>
demand (extV r2 1) (fun x4 =>
wpB C I R_c0 (St.mk (look [(0, s 0), (1, s 1), (5, s 5), (7, x4)]) or2) (seqK (fun st => wpB C I R_c2 st (blockK 1 [0, 1, 5] none (seqK (fun s => wpB C I R_l0 s Q) Q))) (blockK 1 [0, 1, 5] none (seqK (fun s => wpB C I R_l0 s Q) Q)))))))) : wpB C I R_l0 (St.mk s o) Q := w_loopC hL h
theorem g_tree_parser_product_c3_sh : wpB C I (g_tree_parser_product.c3F R_l0) (St.mk s o) Q =
 (wpB C I R_l0 (St.mk s o) (blockK 0 [4] none Q)) := rfl
@[instance] theorem g_tree_parser_product_c3_u : UnfAt (wpB C I g_tree_parser_product.c3 (St.mk s o) Q) g_tree_parser_product_c3_sh := Unf.of _
theorem g_tree_parser_product_code_sh : wpB C I (g_tree_parser_product.codeF R_c3) (St.mk s o) Q =
 (callK C I (St.mk (upd (upd (look [(0, s 0), (1, s 1)]) 9 (s 0)) 10 (s 1)) o) (some 11) 225 [(s 0), (s 1)] (fun r1 or1 =>
wpB C I R_c3 (St.mk (look [(0, s 0), (1, s 1), (5, r1)]) or1) Q)) := rfl
@[instance] theorem g_tree_parser_product_code_u : UnfAt (wpB C I g_tree_parser_product.code (St.mk s o) Q) g_tree_parser_product_code_sh := Unf.of _
theorem g_money_Text_c0_sh : wpB C I (g_money_Text.c0) (St.mk s o) Q =
 ((s 17) = V.undef ∧ (quietV o ((s 4) :: [(s 4)]) ∧
(s 18) = V.undef ∧ (quietV o ((s 0) :: [(s 0)]) ∧
(s 19) = V.undef ∧ (demand (binV BinOp.quo (s 0) (V.d (.int .i64 100))) (fun x3 => quietV o (x3 :: [(s 0), (V.d (.int .i64 100))]) ∧
(s 20) = V.undef ∧ (∃ x4, SoundAt C 68 ⟨[x3], fun _ => none⟩ ⟨x4, fun _ => none⟩ ∧ (∀ n, V.refs n x4 = false) ∧ quietV o (x4 :: [x3]) ∧
(s 21) = V.undef ∧ (demand (binV BinOp.add (s 4) x4) (fun x5 => quietV o (x5 :: [(s 4), x4]) ∧
(s 22) = V.undef ∧ (demand (binV BinOp.add x5 (V.d (.str [46]))) (fun x6 => quietV o (x6 :: [x5, (V.d (.str [46]))]) ∧
(s 23) = V.undef ∧ (quietV o ((s 5) :: [(s 5)]) ∧
(s 24) = V.undef ∧ (demand (slcSV (s 5) (some (V.d (.int .i64 1))) none) (fun x8 => quietV o (x8 :: [(s 5), (V.d (.int .i64 1))]) ∧
(s 25) = V.undef ∧ (demand (binV BinOp.add x6 x8) (fun x9 => quietV o (x9 :: [x6, x8]) ∧
(s 2) = V.undef ∧ (quietV o (x9 :: [x9]) ∧
(s 3) = V.undef ∧ (quietV o ((V.d (.int .i64 0)) :: [(V.d (.int .i64 0))]) ∧
Q .ret (St.mk (look [(2, x9), (3, (V.d (.int .i64 0)))]) (looko ([].map fun n => (n, o n))))))))))))))))))))) := rfl
@[instance] theorem g_money_Text_c0_u : UnfAt (wpB C I g_money_Text.c0 (St.mk s o) Q) g_money_Text_c0_sh := Unf.of _
theorem g_money_Text_c1_sh : wpB C I (g_money_Text.c1F R_c0) (St.mk s o) Q =
 (demand (binV BinOp.rem (s 0) (V.d (.int .i64 100))) (fun x1 =>
demand (binV BinOp.add (V.d (.int .i64 100)) x1) (fun x2 =>
callK C I (St.mk (upd (upd (upd s 13 (s 0)) 14 x1) 15 x2) o) (some 16) 68 [x2] (fun r3 or3 =>
wpB C I R_c0 (St.mk (look [(0, s 0), (4, s 4), (5, r3)]) (looko ([].map fun n => (n, or3 n)))) Q)))) := rfl
@[instance] theorem g_money_Text_c1_u : UnfAt (wpB C I g_money_Text.c1 (St.mk s o) Q) g_money_Text_c1_sh := Unf.of _
theorem g_money_Text_c2_sh : wpB C I (g_money_Text.c2F R_c1) (St.mk s o) Q =
 (demand (binV BinOp.lss (s 0) (V.d (.int .i64 0))) (fun x1 =>
condK x1
 (demand (unV UnOp.neg (s 0)) (fun x2 =>
wpB C I R_c1 (St.mk (look [(0, x2), (4, (V.d (.str [45])))]) (looko ([].map fun n => (n, o n)))) Q))
 (wpB C I R_c1 (St.mk (look [(0, s 0), (4, (V.d (.str []))), (10, x1)]) (looko ([].map fun n => (n, o n)))) Q))) := rfl
@[instance] theorem g_money_Text_c2_u : UnfAt (wpB C I g_money_Text.c2 (St.mk s o) Q) g_money_Text_c2_sh := Unf.of _
theorem g_money_Text_code_sh : wpB C I (g_money_Text.codeF R_c2) (St.mk s o) Q =
 (callK C I (St.mk (upd (look [(0, s 0)]) 6 (s 0)) (looko ([].map fun n => (n, o n)))) (some 7) 58 [(s 0)] (fun r1 or1 =>
demand (unV UnOp.not r1) (fun x2 =>
condK x2
 (Q .ret (St.mk (look [(2, (V.d (.str []))), (3, (V.d (.int .i64 3)))]) (looko ([].map fun n => (n, or1 n)))))
 (wpB C I R_c2 (St.mk (look [(0, s 0), (8, x2)]) (looko ([].map fun n => (n, or1 n)))) Q)))) := rfl
@[instance] theorem g_money_Text_code_u : UnfAt (wpB C I g_money_Text.code (St.mk s o) Q) g_money_Text_code_sh := Unf.of _
theorem g_rate_Text_c0_sh : wpB C I (g_rate_Text.c0) (St.mk s o) Q =
 (demand (binV BinOp.add (s 4) (V.d (.str [37]))) (fun x1 =>
Q .ret (St.mk (look [(2, x1), (3, (V.d (.int .i64 0)))]) (looko ([].map fun n => (n, o n)))))) := rfl
@[instance] theorem g_rate_Text_c0_u : UnfAt (wpB C I g_rate_Text.c0 (St.mk s o) Q) g_rate_Text_c0_sh := Unf.of _
theorem g_rate_Text_c1_sh : wpB C I (g_rate_Text.c1F R_c0) (St.mk s o) Q =
 (callK C I (St.mk (upd s 10 (s 0)) o) (some 11) 50 [(s 0)] (fun r1 or1 =>
demand (extV r1 0) (fun x2 =>
demand (extV r1 1) (fun x3 =>
wpB C I R_c0 (St.mk (look [(4, x2)]) (looko ([].map fun n => (n, or1 n)))) Q)))) := rfl
@[instance] theorem g_rate_Text_c1_u : UnfAt (wpB C I g_rate_Text.c1 (St.mk s o) Q) g_rate_Text_c1_sh := Unf.of _
theorem g_rate_Text_code_sh : wpB C I (g_rate_Text.codeF R_c1) (St.mk s o) Q =
 (callK C I (St.mk (upd (look [(0, s 0)]) 6 (s 0)) (looko ([].map fun n => (n, o n)))) (some 7) 88 [(s 0)] (fun r1 or1 =>
demand (unV UnOp.not r1) (fun x2 =>
condK x2
 (Q .ret (St.mk (look [(2, (V.d (.str []))), (3, (V.d (.int .i64 1)))]) (looko ([].map fun n => (n, or1 n)))))
 (wpB C I R_c1 (St.mk (look [(0, s 0), (8, x2)]) (looko ([].map fun n => (n, or1 n)))) Q)))) := rfl
@[instance] theorem g_rate_Text_code_u : UnfAt (wpB C I g_rate_Text.code (St.mk s o) Q) g_rate_Text_code_sh := Unf.of _
theorem g_money_Right_code_sh : wpB C I (g_money_Right.code) (St.mk s o) Q =
 (demand (binV BinOp.geq (s 0) (V.d (.int .i64 (-9223372036854775807)))) (fun x1 =>
Q .ret (St.mk (look [(2, x1)]) (looko ([].map fun n => (n, o n)))))) := rfl
@[instance] theorem g_money_Right_code_u : UnfAt (wpB C I g_money_Right.code (St.mk s o) Q) g_money_Right_code_sh := Unf.of _
theorem g_strings_CutSuffix_code_sh : wpB C I (g_strings_CutSuffix.code) (St.mk s o) Q =
 (callK C I (St.mk (upd (upd (look [(0, s 0), (1, s 1)]) 6 (s 0)) 7 (s 1)) (looko ([].map fun n => (n, o n)))) (some 8) 122 [(s 0), (s 1)] (fun r1 or1 =>
demand (extV r1 0) (fun x2 =>
demand (extV r1 1) (fun x3 =>
Q .ret (St.mk (look [(4, x2), (5, x3)]) (looko ([].map fun n => (n, or1 n)))))))) := rfl
@[instance] theorem g_strings_CutSuffix_code_u : UnfAt (wpB C I g_strings_CutSuffix.code (St.mk s o) Q) g_strings_CutSuffix_code_sh := Unf.of _
theorem g_rate_Right_o1_sh : opsB C I (g_rate_Right.o1) (St.mk s o) K =
 (demand (pickV (s 5) (s 7) (V.d (.bool false))) (fun x1 =>
K (St.mk (upd (upd s 8 x1) 2 x1) o))) := rfl
@[instance] theorem g_rate_Right_o1_u : UnfAt (opsB C I g_rate_Right.o1 (St.mk s o) K) g_rate_Right_o1_sh := Unf.of _
theorem g_rate_Right_o0_sh : opsB C I (g_rate_Right.o0F R_o1) (St.mk s o) K =
 (guardK (s 5) true
 (demand (binV BinOp.leq (s 0) (V.d (.int .i64 10000))) (fun x1 =>
opsB C I R_o1 (St.mk (look [(5, (V.d (D.bool true))), (7, x1)]) (looko ([].map fun n => (n, o n)))) K))
 (opsB C I R_o1 (St.mk (look [(5, (V.d (D.bool false))), (7, (V.tup []))]) (looko ([].map fun n => (n, o n)))) K)
 (opsB C I R_o1 (St.mk (look [(5, (V.tup [])), (7, (V.tup []))]) (looko ([].map fun n => (n, o n)))) K)) := rfl
@[instance] theorem g_rate_Right_o0_u : UnfAt (opsB C I g_rate_Right.o0 (St.mk s o) K) g_rate_Right_o0_sh := Unf.of _
theorem g_rate_Right_c0_sh : wpB C I (g_rate_Right.c0) (St.mk s o) Q =
 (Q .ret (St.mk s o)) := rfl
@[instance] theorem g_rate_Right_c0_u : UnfAt (wpB C I g_rate_Right.c0 (St.mk s o) Q) g_rate_Right_c0_sh := Unf.of _
theorem g_rate_Right_code_sh : wpB C I (g_rate_Right.codeF R_o0 R_c0) (St.mk s o) Q =
 (demand (binV BinOp.geq (s 0) (V.d (.int .i64 0))) (fun x1 =>
opsB C I R_o0 (St.mk (look [(0, s 0), (5, x1)]) (looko ([].map fun n => (n, o n)))) (fun st => (seqK (fun st => wpB C I R_c0 st Q) Q) .normal (St.trim st [2] (some []))))) := rfl
@[instance] theorem g_rate_Right_code_u : UnfAt (wpB C I g_rate_Right.code (St.mk s o) Q) g_rate_Right_code_sh := Unf.of _
theorem g_internal_stringslite_HasPrefix_o1_sh : opsB C I (g_internal_stringslite_HasPrefix.o1) (St.mk s o) K =
 (demand (pickV (s 10) (s 16) (V.d (.bool false))) (fun x1 =>
K (St.mk (upd (upd s 17 x1) 4 x1) o))) := rfl
@[instance] theorem g_internal_stringslite_HasPrefix_o1_u : UnfAt (opsB C I g_internal_stringslite_HasPrefix.o1 (St.mk s o) K) g_internal_stringslite_HasPrefix_o1_sh := Unf.of _
theorem g_internal_stringslite_HasPrefix_o0_sh : opsB C I (g_internal_stringslite_HasPrefix.o0F R_o1) (St.mk s o) K =
 (guardK (s 10) true
 (demand (lenSV (s 1)) (fun x1 =>
demand (slcSV (s 0) none (some x1)) (fun x2 =>
demand (binV BinOp.eql x2 (s 1)) (fun x3 =>
opsB C I R_o1 (St.mk (look [(10, (V.d (D.bool true))), (16, x3)]) (looko ([].map fun n => (n, o n)))) K))))
 (opsB C I R_o1 (St.mk (look [(10, (V.d (D.bool false))), (16, (V.tup []))]) (looko ([].map fun n => (n, o n)))) K)
 (opsB C I R_o1 (St.mk (look [(10, (V.tup [])), (16, (V.tup []))]) (looko ([].map fun n => (n, o n)))) K)) := rfl
@[instance] theorem g_internal_stringslite_HasPrefix_o0_u : UnfAt (opsB C I g_internal_stringslite_HasPrefix.o0 (St.mk s o) K) g_internal_stringslite_HasPrefix_o0_sh := Unf.of _
theorem g_internal_stringslite_HasPrefix_c0_sh : wpB C I (g_internal_stringslite_HasPrefix.c0) (St.mk s o) Q =
 (Q .ret (St.mk s o)) := rfl
@[instance] theorem g_internal_stringslite_HasPrefix_c0_u : UnfAt (wpB C I g_internal_stringslite_HasPrefix.c0 (St.mk s o) Q) g_internal_stringslite_HasPrefix_c0_sh := Unf.of _
theorem g_internal_stringslite_HasPrefix_code_sh : wpB C I (g_internal_stringslite_HasPrefix.codeF R_o0 R_c0) (St.mk s o) Q =
 (demand (lenSV (s 0)) (fun x1 =>
demand (lenSV (s 1)) (fun x2 =>
demand (binV BinOp.geq x1 x2) (fun x3 =>
opsB C I R_o0 (St.mk (look [(0, s 0), (1, s 1), (10, x3)]) (looko ([].map fun n => (n, o n)))) (fun st => (seqK (fun st => wpB C I R_c0 st Q) Q) .normal (St.trim st [4] (some []))))))) := rfl
@[instance] theorem g_internal_stringslite_HasPrefix_code_u : UnfAt (wpB C I g_internal_stringslite_HasPrefix.code (St.mk s o) Q) g_internal_stringslite_HasPrefix_code_sh := Unf.of _
theorem g_tree_parser_factor_c0_sh : wpB C I (g_tree_parser_factor.c0) (St.mk s o) Q =
 (condK (s 6)
 (demand (binV BinOp.add (s 1) (V.d (.int .i64 1))) (fun x1 =>
callK C I (St.mk (upd (upd (upd (upd (look [(0, s 0), (1, s 1), (27, s 6)]) 28 (s 0)) 29 (s 0)) 30 (s 1)) 31 x1) o) (some 32) 225 [(s 0), x1] (fun r2 or2 =>
demand ((buildN [V.d (.str []), V.d (.str []), V.d (.int .i64 0), V.d (.int .i64 0), V.d (.int .i64 0), V.d (.int .i64 0)] [(0, 1, (V.d (.str [110, 101, 103]))), (3, 1, r2)]).map V.agg) (fun x3 =>
callK C I (St.mk (upd (upd (upd (upd (upd (upd (look [(0, s 0), (1, s 1), (27, s 6)]) 28 (s 0)) 29 (s 0)) 30 (s 1)) 31 x1) 32 r2) 33 x3) or2) (some 34) 222 [(s 0), x3] (fun r4 or4 =>
Q .ret (St.mk (look [(4, r4)]) or4))))))
 (Q .normal (St.mk (look [(0, s 0), (1, s 1), (27, s 6)]) o))) := rfl
@[instance] theorem g_tree_parser_factor_c0_u : UnfAt (wpB C I g_tree_parser_factor.c0 (St.mk s o) Q) g_tree_parser_factor_c0_sh := Unf.of _
theorem g_tree_parser_factor_c1_sh : wpB C I (g_tree_parser_factor.c1) (St.mk s o) Q =
 (condK (s 8)
 (callK C I (St.mk (upd (upd (upd (look [(0, s 0), (1, s 1), (7, s 7), (41, s 8)]) 42 (s 0)) 43 (s 7)) 44 (s 1)) o) (some 45) 226 [(s 0), (s 7), (s 1)] (fun r1 or1 =>
Q .ret (St.mk (look [(4, r1)]) or1)))
 (Q .normal (St.mk (look [(0, s 0), (1, s 1), (7, s 7), (41, s 8)]) o))) := rfl
@[instance] theorem g_tree_parser_factor_c1_u : UnfAt (wpB C I g_tree_parser_factor.c1 (St.mk s o) Q) g_tree_parser_factor_c1_sh := Unf.of _
theorem g_tree_parser_factor_c2_sh : wpB C I (g_tree_parser_factor.c2) (St.mk s o) Q =
 (callK C I (St.mk (upd s 57 (s 0)) o) (some 58) 220 [(s 0), (V.d (.str [41]))] (fun r1 or1 =>
Q .ret (St.mk (look [(4, s 11)]) or1))) := rfl
@[instance] theorem g_tree_parser_factor_c2_u : UnfAt (wpB C I g_tree_parser_factor.c2 (St.mk s o) Q) g_tree_parser_factor_c2_sh := Unf.of _
theorem g_tree_parser_factor_c3_sh : wpB C I (g_tree_parser_factor.c3F R_c2) (St.mk s o) Q =
 (condK (s 10)
 (demand (binV BinOp.add (s 1) (V.d (.int .i64 1))) (fun x1 =>
callK C I (St.mk (upd (upd (upd (look [(0, s 0), (1, s 1), (52, s 10)]) 53 (s 0)) 54 (s 1)) 55 x1) o) (some 56) 221 [(s 0), x1] (fun r2 or2 =>
wpB C I R_c2 (St.mk (look [(0, s 0), (11, r2)]) or2) Q)))
 (Q .normal (St.mk (look [(0, s 0), (1, s 1), (52, s 10)]) o))) := rfl
@[instance] theorem g_tree_parser_factor_c3_u : UnfAt (wpB C I g_tree_parser_factor.c3 (St.mk s o) Q) g_tree_parser_factor_c3_sh := Unf.of _
theorem g_tree_parser_factor_c4_sh : wpB C I (g_tree_parser_factor.c4) (St.mk s o) Q =
 (callK C I (St.mk (upd s 60 (s 0)) o) (some 61) 227 [(s 0)] (fun r1 or1 =>
Q .ret (St.mk (look [(4, r1)]) or1))) := rfl
@[instance] theorem g_tree_parser_factor_c4_u : UnfAt (wpB C I g_tree_parser_factor.c4 (St.mk s o) Q) g_tree_parser_factor_c4_sh := Unf.of _
theorem g_tree_parser_factor_c5_sh : wpB C I (g_tree_parser_factor.c5F R_c3 R_c4) (St.mk s o) Q =
 (lstK (partsN 1 [(V.d (.str [40]))]) (fun es1 =>
callK C I (St.mk (upd (upd s 47 (s 0)) 48 (V.d (D.sl es1))) o) (some 49) 219 [(s 0), (V.d (D.sl es1))] (fun r2 or2 =>
demand (extV r2 0) (fun x3 =>
demand (extV r2 1) (fun x4 =>
wpB C I R_c3 (St.mk (look [(0, s 0), (1, s 1), (10, x4)]) or2) (seqK (fun st => wpB C I R_c4 st Q) Q)))))) := rfl
@[instance] theorem g_tree_parser_factor_c5_u : UnfAt (wpB C I g_tree_parser_factor.c5 (St.mk s o) Q) g_tree_parser_factor_c5_sh := Unf.of _
theorem g_tree_parser_factor_c6_sh : wpB C I (g_tree_parser_factor.c6F R_c1 R_c5) (St.mk s o) Q =
 (lstK (partsN 1 [(V.d (.str [109, 105, 110])), (V.d (.str [109, 97, 120]))]) (fun es1 =>
callK C I (St.mk (upd (upd s 36 (s 0)) 37 (V.d (D.sl es1))) o) (some 38) 219 [(s 0), (V.d (D.sl es1))] (fun r2 or2 =>
demand (extV r2 0) (fun x3 =>
demand (extV r2 1) (fun x4 =>
wpB C I R_c1 (St.mk (look [(0, s 0), (1, s 1), (7, x3), (8, x4)]) or2) (seqK (fun st => wpB C I R_c5 st Q) Q)))))) := rfl
@[instance] theorem g_tree_parser_factor_c6_u : UnfAt (wpB C I g_tree_parser_factor.c6 (St.mk s o) Q) g_tree_parser_factor_c6_sh := Unf.of _
theorem g_tree_parser_factor_c7_sh : wpB C I (g_tree_parser_factor.c7F R_c0 R_c6) (St.mk s o) Q =
 (lstK (partsN 1 [(V.d (.str [45]))]) (fun es1 =>
callK C I (St.mk (upd (upd s 22 (s 0)) 23 (V.d (D.sl es1))) o) (some 24) 219 [(s 0), (V.d (D.sl es1))] (fun r2 or2 =>
demand (extV r2 0) (fun x3 =>
demand (extV r2 1) (fun x4 =>
wpB C I R_c0 (St.mk (look [(0, s 0), (1, s 1), (6, x4)]) or2) (seqK (fun st => wpB C I R_c6 st Q) Q)))))) := rfl
@[instance] theorem g_tree_parser_factor_c7_u : UnfAt (wpB C I g_tree_parser_factor.c7 (St.mk s o) Q) g_tree_parser_factor_c7_sh := Unf.of _
theorem g_tree_parser_factor_c8_sh : wpB C I (g_tree_parser_factor.c8F R_c7) (St.mk s o) Q =
 (demand (nilcV (s 0)) (fun x1 =>
demand (faddrV 5 x1) (fun x2 =>
demand (loadV o none x2) (fun x3 =>
demand (binV BinOp.neq x3 (V.d (.int .i64 0))) (fun x4 =>
condK x4
 (Q .ret (St.mk (look [(4, (V.d (.int .i64 0)))]) o))
 (wpB C I R_c7 (St.mk (look [(0, s 0), (1, s 1), (20, x4)]) o) Q)))))) := rfl
@[instance] theorem g_tree_parser_factor_c8_u : UnfAt (wpB C I g_tree_parser_factor.c8 (St.mk s o) Q) g_tree_parser_factor_c8_sh := Unf.of _
theorem g_tree_parser_factor_code_sh : wpB C I (g_tree_parser_factor.codeF R_c8) (St.mk s o) Q =
 (demand (binV BinOp.gtr (s 1) (V.d (.int .i64 20))) (fun x1 =>
condK x1
 (callK C I (St.mk (upd (look [(0, s 0), (1, s 1), (13, x1)]) 14 (s 0)) o) (some 15) 218 [(s 0), (V.d (.int .i64 9))] (fun r2 or2 =>
wpB C I R_c8 (St.mk (look [(0, s 0), (1, s 1)]) or2) Q))
 (wpB C I R_c8 (St.mk (look [(0, s 0), (1, s 1), (13, x1)]) o) Q))) := rfl
@[instance] theorem g_tree_parser_factor_code_u : UnfAt (wpB C I g_tree_parser_factor.code (St.mk s o) Q) g_tree_parser_factor_code_sh := Unf.of _
theorem g_internal_stringslite_CutSuffix_c0_sh : wpB C I (g_internal_stringslite_CutSuffix.c0) (St.mk s o) Q =
 (demand (lenSV (s 0)) (fun x1 =>
demand (lenSV (s 1)) (fun x2 =>
demand (binV BinOp.sub x1 x2) (fun x3 =>
demand (slcSV (s 0) none (some x3)) (fun x4 =>
Q .ret (St.mk (look [(4, x4), (5, (V.d (.bool true)))]) (looko ([].map fun n => (n, o n))))))))) := rfl
@[instance] theorem g_internal_stringslite_CutSuffix_c0_u : UnfAt (wpB C I g_internal_stringslite_CutSuffix.c0 (St.mk s o) Q) g_internal_stringslite_CutSuffix_c0_sh := Unf.of _
theorem g_internal_stringslite_CutSuffix_code_sh : wpB C I (g_internal_stringslite_CutSuffix.codeF R_c0) (St.mk s o) Q =
 (callK C I (St.mk (upd (upd (look [(0, s 0), (1, s 1)]) 6 (s 0)) 7 (s 1)) (looko ([].map fun n => (n, o n)))) (some 8) 141 [(s 0), (s 1)] (fun r1 or1 =>
demand (unV UnOp.not r1) (fun x2 =>
condK x2
 (Q .ret (St.mk (look [(4, s 0), (5, (V.d (.bool false)))]) (looko ([].map fun n => (n, or1 n)))))
 (wpB C I R_c0 (St.mk (look [(0, s 0), (1, s 1), (9, x2)]) (looko ([].map fun n => (n, or1 n)))) Q)))) := rfl
@[instance] theorem g_internal_stringslite_CutSuffix_code_u : UnfAt (wpB C I g_internal_stringslite_CutSuffix.code (St.mk s o) Q) g_internal_stringslite_CutSuffix_code_sh := Unf.of _
theorem g_tree_parser_pair_c0_sh : wpB C I (g_tree_parser_pair.c0) (St.mk s o) Q =
 (callK C I (St.mk (upd s 21 (s 0)) o) (some 22) 220 [(s 0), (V.d (.str [41]))] (fun r1 or1 =>
demand ((buildN [V.d (.str []), V.d (.str []), V.d (.int .i64 0), V.d (.int .i64 0), V.d (.int .i64 0), V.d (.int .i64 0)] [(0, 1, (s 1)), (3, 1, (s 7)), (4, 1, (s 8))]).map V.agg) (fun x2 =>
callK C I (St.mk (upd (upd (upd (upd (upd (look [(0, s 0), (1, s 1), (7, s 7), (8, s 8)]) 23 (s 0)) 24 (s 1)) 25 (s 7)) 26 (s 8)) 27 x2) or1) (some 28) 222 [(s 0), x2] (fun r3 or3 =>
Q .ret (St.mk (look [(6, r3)]) or3))))) := rfl
@[instance] theorem g_tree_parser_pair_c0_u : UnfAt (wpB C I g_tree_parser_pair.c0 (St.mk s o) Q) g_tree_parser_pair_c0_sh := Unf.of _
end Pay
