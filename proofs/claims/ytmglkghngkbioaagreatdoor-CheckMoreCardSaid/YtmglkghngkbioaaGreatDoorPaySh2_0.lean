/- What the code of the functions comes to, without slots: an equation for each part; no condition. -/
import Derived.Test.YtmglkghngkbioaaGreatDoorPayBb0
import Derived.Test.YtmglkghngkbioaaGreatDoorPayCode2_0
set_option maxRecDepth 20000
set_option maxHeartbeats 400000
set_option linter.unusedVariables false
namespace Pay
open Go
variable {R_c0 R_c1 R_c2 R_c3 R_c4 R_c5 R_c6 R_c7 R_c8 R_c9 R_l0 : ACode} {R_i7 R_i8 R_i9 R_i10 R_i40 R_i41 R_i42 : List Nat} {R_o0 R_o1 R_o2 R_o3 R_o4 R_o5 R_o71 R_o72 R_o73 R_o74 R_o75 R_o76 R_o77 R_o78 R_o79 R_o80 : List AOper} {R_t11 R_t12 R_t13 R_t14 R_t15 R_t16 R_t17 R_t18 R_t19 R_t20 R_t21 R_t22 R_t23 R_t24 R_t25 R_t26 R_t27 R_t28 R_t29 R_t30 R_t31 R_t32 R_t33 R_t34 R_t35 R_t36 R_t37 R_t38 R_t43 R_t44 R_t45 R_t46 R_t47 R_t48 R_t49 R_t50 R_t51 R_t52 R_t53 R_t54 R_t55 R_t56 R_t57 R_t58 R_t59 R_t60 R_t61 R_t62 R_t63 R_t64 R_t65 R_t66 R_t67 R_t68 R_t69 R_t70 : Tr} {C : Ctx} {I : Nat → Prop} {s : Nat → V} {o : Nat → Option Ob} {K : St → Prop} {Q : Ex → St → Prop}
theorem g_law10_CheckMore_o5_sh : opsB C I (g_law10_CheckMore.o5) (St.mk s o) K =
 (demand (pickV (s 35) (V.d (.bool true)) (s 38)) (fun x1 =>
K (St.mk (upd s 39 x1) o))) := rfl
@[instance] theorem g_law10_CheckMore_o5_u : UnfAt (opsB C I g_law10_CheckMore.o5 (St.mk s o) K) g_law10_CheckMore_o5_sh := Unf.of _
theorem g_law10_CheckMore_o4_sh : opsB C I (g_law10_CheckMore.o4F R_o5) (St.mk s o) K =
 (guardK (s 35) false
 (demand (lenV o (s 3)) (fun x1 =>
demand (binV BinOp.gtr x1 (V.d (.int .i64 60))) (fun x2 =>
opsB C I R_o5 (St.mk (look [(1, s 1), (2, s 2), (3, s 3), (4, s 4), (35, (V.d (D.bool false))), (38, x2)]) (looko ([4].map fun n => (n, o n)))) K)))
 (opsB C I R_o5 (St.mk (look [(1, s 1), (2, s 2), (3, s 3), (4, s 4), (35, (V.d (D.bool true))), (38, (V.tup []))]) (looko ([4].map fun n => (n, o n)))) K)
 (opsB C I R_o5 (St.mk (look [(1, s 1), (2, s 2), (3, s 3), (4, s 4), (35, (V.tup [])), (38, (V.tup []))]) (looko ([4].map fun n => (n, o n)))) K)) := rfl
@[instance] theorem g_law10_CheckMore_o4_u : UnfAt (opsB C I g_law10_CheckMore.o4 (St.mk s o) K) g_law10_CheckMore_o4_sh := Unf.of _
theorem g_law10_CheckMore_o3_sh : opsB C I (g_law10_CheckMore.o3F R_o4) (St.mk s o) K =
 (demand (pickV (s 30) (V.d (.bool true)) (s 33)) (fun x1 =>
opsB C I R_o4 (St.mk (look [(1, s 1), (2, s 2), (3, s 3), (4, s 4), (35, x1)]) (looko ([4].map fun n => (n, o n)))) K)) := rfl
@[instance] theorem g_law10_CheckMore_o3_u : UnfAt (opsB C I g_law10_CheckMore.o3 (St.mk s o) K) g_law10_CheckMore_o3_sh := Unf.of _
theorem g_law10_CheckMore_o2_sh : opsB C I (g_law10_CheckMore.o2F R_o3) (St.mk s o) K =
 (guardK (s 30) false
 (demand (lenV o (s 2)) (fun x1 =>
demand (binV BinOp.gtr x1 (V.d (.int .i64 60))) (fun x2 =>
opsB C I R_o3 (St.mk (look [(1, s 1), (2, s 2), (3, s 3), (4, s 4), (30, (V.d (D.bool false))), (33, x2)]) (looko ([4].map fun n => (n, o n)))) K)))
 (opsB C I R_o3 (St.mk (look [(1, s 1), (2, s 2), (3, s 3), (4, s 4), (30, (V.d (D.bool true))), (33, (V.tup []))]) (looko ([4].map fun n => (n, o n)))) K)
 (opsB C I R_o3 (St.mk (look [(1, s 1), (2, s 2), (3, s 3), (4, s 4), (30, (V.tup [])), (33, (V.tup []))]) (looko ([4].map fun n => (n, o n)))) K)) := rfl
@[instance] theorem g_law10_CheckMore_o2_u : UnfAt (opsB C I g_law10_CheckMore.o2 (St.mk s o) K) g_law10_CheckMore_o2_sh := Unf.of _
theorem g_law10_CheckMore_o1_sh : opsB C I (g_law10_CheckMore.o1F R_o2) (St.mk s o) K =
 (demand (pickV (s 24) (V.d (.bool true)) (s 28)) (fun x1 =>
opsB C I R_o2 (St.mk (look [(1, s 1), (2, s 2), (3, s 3), (4, s 4), (30, x1)]) (looko ([4].map fun n => (n, o n)))) K)) := rfl
@[instance] theorem g_law10_CheckMore_o1_u : UnfAt (opsB C I g_law10_CheckMore.o1 (St.mk s o) K) g_law10_CheckMore_o1_sh := Unf.of _
theorem g_law10_CheckMore_o0_sh : opsB C I (g_law10_CheckMore.o0F R_o1) (St.mk s o) K =
 (guardK (s 24) false
 (demand (loadV o (some 2) (s 4)) (fun x1 =>
callK C I (St.mk (upd (upd (upd s 24 (V.d (D.bool false))) 25 x1) 24 (V.d (D.bool false))) o) (some 26) 160 [x1] (fun r2 or2 =>
callK C I (St.mk (upd (upd (upd (upd (upd s 24 (V.d (D.bool false))) 25 x1) 24 (V.d (D.bool false))) 26 r2) 24 (V.d (D.bool false))) or2) (some 27) 161 [r2] (fun r3 or3 =>
demand (unV UnOp.not r3) (fun x4 =>
opsB C I R_o1 (St.mk (look [(1, s 1), (2, s 2), (3, s 3), (4, s 4), (24, (V.d (D.bool false))), (28, x4)]) (looko ([4].map fun n => (n, or3 n)))) K)))))
 (opsB C I R_o1 (St.mk (look [(1, s 1), (2, s 2), (3, s 3), (4, s 4), (24, (V.d (D.bool true))), (28, (V.tup []))]) (looko ([4].map fun n => (n, o n)))) K)
 (opsB C I R_o1 (St.mk (look [(1, s 1), (2, s 2), (3, s 3), (4, s 4), (24, (V.tup [])), (28, (V.tup []))]) (looko ([4].map fun n => (n, o n)))) K)) := rfl
@[instance] theorem g_law10_CheckMore_o0_u : UnfAt (opsB C I g_law10_CheckMore.o0 (St.mk s o) K) g_law10_CheckMore_o0_sh := Unf.of _
theorem g_law10_CheckMore_c0_sh : wpB C I (g_law10_CheckMore.c0) (St.mk s o) Q =
 (condK (s 39)
 (callK C I (St.mk s o) (some 40) 162 [] (fun r1 or1 =>
Q .ret (St.mk (look [(8, r1)]) (looko ([].map fun n => (n, or1 n))))))
 (Q .normal (St.mk s o))) := rfl
@[instance] theorem g_law10_CheckMore_c0_u : UnfAt (wpB C I g_law10_CheckMore.c0 (St.mk s o) Q) g_law10_CheckMore_c0_sh := Unf.of _
theorem g_law10_CheckMore_t11_sh : treeB C I g_law10_CheckMore.a6 (.one 14 .done) (St.mk s o) K =
 ((([] : List Nat) = [] ∧ (K (St.mk (upd s 14 (s 60)) o)))) := rfl
@[instance] theorem g_law10_CheckMore_t11_u : UnfAt (treeB C I g_law10_CheckMore.a6 g_law10_CheckMore.t11 (St.mk s o) K) g_law10_CheckMore_t11_sh := Unf.of _
theorem g_law10_CheckMore_t12_sh : treeB C I g_law10_CheckMore.a6 (.one 13 R_t11) (St.mk s o) K =
 ((([] : List Nat) = [] ∧ (treeB C I g_law10_CheckMore.a6 R_t11 (St.mk (upd s 13 (s 59)) o) K))) := rfl
@[instance] theorem g_law10_CheckMore_t12_u : UnfAt (treeB C I g_law10_CheckMore.a6 g_law10_CheckMore.t12 (St.mk s o) K) g_law10_CheckMore_t12_sh := Unf.of _
theorem g_law10_CheckMore_t13_sh : treeB C I g_law10_CheckMore.a6 (.one 12 R_t12) (St.mk s o) K =
 ((([] : List Nat) = [] ∧ (treeB C I g_law10_CheckMore.a6 R_t12 (St.mk (upd s 12 (s 58)) o) K))) := rfl
@[instance] theorem g_law10_CheckMore_t13_u : UnfAt (treeB C I g_law10_CheckMore.a6 g_law10_CheckMore.t13 (St.mk s o) K) g_law10_CheckMore_t13_sh := Unf.of _
theorem g_law10_CheckMore_t14_sh : treeB C I g_law10_CheckMore.a6 (.one 11 R_t11) (St.mk s o) K =
 ((([] : List Nat) = [] ∧ (demand (extV (s 49) 2) (fun x1 =>
treeB C I g_law10_CheckMore.a6 R_t11 (St.mk (upd s 60 x1) o) K)))) := rfl
@[instance] theorem g_law10_CheckMore_t14_u : UnfAt (treeB C I g_law10_CheckMore.a6 g_law10_CheckMore.t14 (St.mk s o) K) g_law10_CheckMore_t14_sh := Unf.of _
theorem g_law10_CheckMore_t15_sh : treeB C I g_law10_CheckMore.a6 (.one 13 R_t14) (St.mk s o) K =
 ((([] : List Nat) = [] ∧ (treeB C I g_law10_CheckMore.a6 R_t14 (St.mk (upd s 13 (s 59)) o) K))) := rfl
@[instance] theorem g_law10_CheckMore_t15_u : UnfAt (treeB C I g_law10_CheckMore.a6 g_law10_CheckMore.t15 (St.mk s o) K) g_law10_CheckMore_t15_sh := Unf.of _
theorem g_law10_CheckMore_t16_sh : treeB C I g_law10_CheckMore.a6 (.two 11 R_t12 R_t15) (St.mk s o) K =
 ((([] : List Nat) = [] ∧ (demand (extV (s 49) 2) (fun x1 =>
treeB C I g_law10_CheckMore.a6 R_t12 (St.mk (upd s 60 x1) o) K))) ∧ treeB C I g_law10_CheckMore.a6 R_t15 (St.mk s o) K) := rfl
@[instance] theorem g_law10_CheckMore_t16_u : UnfAt (treeB C I g_law10_CheckMore.a6 g_law10_CheckMore.t16 (St.mk s o) K) g_law10_CheckMore_t16_sh := Unf.of _
theorem g_law10_CheckMore_t17_sh : treeB C I g_law10_CheckMore.a6 (.one 12 R_t16) (St.mk s o) K =
 ((([] : List Nat) = [] ∧ (treeB C I g_law10_CheckMore.a6 R_t16 (St.mk (upd s 12 (s 58)) o) K))) := rfl
@[instance] theorem g_law10_CheckMore_t17_u : UnfAt (treeB C I g_law10_CheckMore.a6 g_law10_CheckMore.t17 (St.mk s o) K) g_law10_CheckMore_t17_sh := Unf.of _
theorem g_law10_CheckMore_t18_sh : treeB C I g_law10_CheckMore.a6 (.two 11 R_t13 R_t17) (St.mk s o) K =
 ((([] : List Nat) = [] ∧ (demand (extV (s 49) 2) (fun x1 =>
treeB C I g_law10_CheckMore.a6 R_t13 (St.mk (upd s 60 x1) o) K))) ∧ treeB C I g_law10_CheckMore.a6 R_t17 (St.mk s o) K) := rfl
@[instance] theorem g_law10_CheckMore_t18_u : UnfAt (treeB C I g_law10_CheckMore.a6 g_law10_CheckMore.t18 (St.mk s o) K) g_law10_CheckMore_t18_sh := Unf.of _
theorem g_law10_CheckMore_t19_sh : treeB C I g_law10_CheckMore.a6 (.one 10 R_t12) (St.mk s o) K =
 ((([] : List Nat) = [] ∧ (demand (extV (s 49) 1) (fun x1 =>
treeB C I g_law10_CheckMore.a6 R_t12 (St.mk (upd s 59 x1) o) K)))) := rfl
@[instance] theorem g_law10_CheckMore_t19_u : UnfAt (treeB C I g_law10_CheckMore.a6 g_law10_CheckMore.t19 (St.mk s o) K) g_law10_CheckMore_t19_sh := Unf.of _
theorem g_law10_CheckMore_t20_sh : treeB C I g_law10_CheckMore.a6 (.one 12 R_t19) (St.mk s o) K =
 ((([] : List Nat) = [] ∧ (treeB C I g_law10_CheckMore.a6 R_t19 (St.mk (upd s 12 (s 58)) o) K))) := rfl
@[instance] theorem g_law10_CheckMore_t20_u : UnfAt (treeB C I g_law10_CheckMore.a6 g_law10_CheckMore.t20 (St.mk s o) K) g_law10_CheckMore_t20_sh := Unf.of _
theorem g_law10_CheckMore_t21_sh : treeB C I g_law10_CheckMore.a6 (.two 10 R_t13 R_t20) (St.mk s o) K =
 ((([] : List Nat) = [] ∧ (demand (extV (s 49) 1) (fun x1 =>
treeB C I g_law10_CheckMore.a6 R_t13 (St.mk (upd s 59 x1) o) K))) ∧ treeB C I g_law10_CheckMore.a6 R_t20 (St.mk s o) K) := rfl
@[instance] theorem g_law10_CheckMore_t21_u : UnfAt (treeB C I g_law10_CheckMore.a6 g_law10_CheckMore.t21 (St.mk s o) K) g_law10_CheckMore_t21_sh := Unf.of _
theorem g_law10_CheckMore_t22_sh : treeB C I g_law10_CheckMore.a6 (.one 11 R_t19) (St.mk s o) K =
 ((([] : List Nat) = [] ∧ (demand (extV (s 49) 2) (fun x1 =>
treeB C I g_law10_CheckMore.a6 R_t19 (St.mk (upd s 60 x1) o) K)))) := rfl
@[instance] theorem g_law10_CheckMore_t22_u : UnfAt (treeB C I g_law10_CheckMore.a6 g_law10_CheckMore.t22 (St.mk s o) K) g_law10_CheckMore_t22_sh := Unf.of _
theorem g_law10_CheckMore_t23_sh : treeB C I g_law10_CheckMore.a6 (.two 10 R_t16 R_t22) (St.mk s o) K =
 ((([] : List Nat) = [] ∧ (demand (extV (s 49) 1) (fun x1 =>
treeB C I g_law10_CheckMore.a6 R_t16 (St.mk (upd s 59 x1) o) K))) ∧ treeB C I g_law10_CheckMore.a6 R_t22 (St.mk s o) K) := rfl
@[instance] theorem g_law10_CheckMore_t23_u : UnfAt (treeB C I g_law10_CheckMore.a6 g_law10_CheckMore.t23 (St.mk s o) K) g_law10_CheckMore_t23_sh := Unf.of _
theorem g_law10_CheckMore_t24_sh : treeB C I g_law10_CheckMore.a6 (.one 12 R_t23) (St.mk s o) K =
 ((([] : List Nat) = [] ∧ (treeB C I g_law10_CheckMore.a6 R_t23 (St.mk (upd s 12 (s 58)) o) K))) := rfl
@[instance] theorem g_law10_CheckMore_t24_u : UnfAt (treeB C I g_law10_CheckMore.a6 g_law10_CheckMore.t24 (St.mk s o) K) g_law10_CheckMore_t24_sh := Unf.of _
theorem g_law10_CheckMore_t25_sh : treeB C I g_law10_CheckMore.a6 (.two 11 R_t21 R_t24) (St.mk s o) K =
 ((([] : List Nat) = [] ∧ (demand (extV (s 49) 2) (fun x1 =>
treeB C I g_law10_CheckMore.a6 R_t21 (St.mk (upd s 60 x1) o) K))) ∧ treeB C I g_law10_CheckMore.a6 R_t24 (St.mk s o) K) := rfl
@[instance] theorem g_law10_CheckMore_t25_u : UnfAt (treeB C I g_law10_CheckMore.a6 g_law10_CheckMore.t25 (St.mk s o) K) g_law10_CheckMore_t25_sh := Unf.of _
theorem g_law10_CheckMore_t26_sh : treeB C I g_law10_CheckMore.a6 (.two 10 R_t18 R_t25) (St.mk s o) K =
 ((([] : List Nat) = [] ∧ (demand (extV (s 49) 1) (fun x1 =>
treeB C I g_law10_CheckMore.a6 R_t18 (St.mk (upd s 59 x1) o) K))) ∧ treeB C I g_law10_CheckMore.a6 R_t25 (St.mk s o) K) := rfl
@[instance] theorem g_law10_CheckMore_t26_u : UnfAt (treeB C I g_law10_CheckMore.a6 g_law10_CheckMore.t26 (St.mk s o) K) g_law10_CheckMore_t26_sh := Unf.of _
theorem g_law10_CheckMore_t27_sh : treeB C I g_law10_CheckMore.a6 (.one 9 R_t13) (St.mk s o) K =
 ((([] : List Nat) = [] ∧ (demand (extV (s 49) 0) (fun x1 =>
treeB C I g_law10_CheckMore.a6 R_t13 (St.mk (upd s 58 x1) o) K)))) := rfl
@[instance] theorem g_law10_CheckMore_t27_u : UnfAt (treeB C I g_law10_CheckMore.a6 g_law10_CheckMore.t27 (St.mk s o) K) g_law10_CheckMore_t27_sh := Unf.of _
theorem g_law10_CheckMore_t28_sh : treeB C I g_law10_CheckMore.a6 (.one 11 R_t27) (St.mk s o) K =
 ((([] : List Nat) = [] ∧ (demand (extV (s 49) 2) (fun x1 =>
treeB C I g_law10_CheckMore.a6 R_t27 (St.mk (upd s 60 x1) o) K)))) := rfl
@[instance] theorem g_law10_CheckMore_t28_u : UnfAt (treeB C I g_law10_CheckMore.a6 g_law10_CheckMore.t28 (St.mk s o) K) g_law10_CheckMore_t28_sh := Unf.of _
theorem g_law10_CheckMore_t29_sh : treeB C I g_law10_CheckMore.a6 (.two 9 R_t18 R_t28) (St.mk s o) K =
 ((([] : List Nat) = [] ∧ (demand (extV (s 49) 0) (fun x1 =>
treeB C I g_law10_CheckMore.a6 R_t18 (St.mk (upd s 58 x1) o) K))) ∧ treeB C I g_law10_CheckMore.a6 R_t28 (St.mk s o) K) := rfl
@[instance] theorem g_law10_CheckMore_t29_u : UnfAt (treeB C I g_law10_CheckMore.a6 g_law10_CheckMore.t29 (St.mk s o) K) g_law10_CheckMore_t29_sh := Unf.of _
theorem g_law10_CheckMore_t30_sh : treeB C I g_law10_CheckMore.a6 (.one 10 R_t27) (St.mk s o) K =
 ((([] : List Nat) = [] ∧ (demand (extV (s 49) 1) (fun x1 =>
treeB C I g_law10_CheckMore.a6 R_t27 (St.mk (upd s 59 x1) o) K)))) := rfl
@[instance] theorem g_law10_CheckMore_t30_u : UnfAt (treeB C I g_law10_CheckMore.a6 g_law10_CheckMore.t30 (St.mk s o) K) g_law10_CheckMore_t30_sh := Unf.of _
theorem g_law10_CheckMore_t31_sh : treeB C I g_law10_CheckMore.a6 (.two 9 R_t21 R_t30) (St.mk s o) K =
 ((([] : List Nat) = [] ∧ (demand (extV (s 49) 0) (fun x1 =>
treeB C I g_law10_CheckMore.a6 R_t21 (St.mk (upd s 58 x1) o) K))) ∧ treeB C I g_law10_CheckMore.a6 R_t30 (St.mk s o) K) := rfl
@[instance] theorem g_law10_CheckMore_t31_u : UnfAt (treeB C I g_law10_CheckMore.a6 g_law10_CheckMore.t31 (St.mk s o) K) g_law10_CheckMore_t31_sh := Unf.of _
theorem g_law10_CheckMore_t32_sh : treeB C I g_law10_CheckMore.a6 (.one 11 R_t31) (St.mk s o) K =
 ((([] : List Nat) = [] ∧ (demand (extV (s 49) 2) (fun x1 =>
treeB C I g_law10_CheckMore.a6 R_t31 (St.mk (upd s 60 x1) o) K)))) := rfl
@[instance] theorem g_law10_CheckMore_t32_u : UnfAt (treeB C I g_law10_CheckMore.a6 g_law10_CheckMore.t32 (St.mk s o) K) g_law10_CheckMore_t32_sh := Unf.of _
theorem g_law10_CheckMore_t33_sh : treeB C I g_law10_CheckMore.a6 (.two 10 R_t29 R_t32) (St.mk s o) K =
 ((([] : List Nat) = [] ∧ (demand (extV (s 49) 1) (fun x1 =>
treeB C I g_law10_CheckMore.a6 R_t29 (St.mk (upd s 59 x1) o) K))) ∧ treeB C I g_law10_CheckMore.a6 R_t32 (St.mk s o) K) := rfl
@[instance] theorem g_law10_CheckMore_t33_u : UnfAt (treeB C I g_law10_CheckMore.a6 g_law10_CheckMore.t33 (St.mk s o) K) g_law10_CheckMore_t33_sh := Unf.of _
theorem g_law10_CheckMore_t34_sh : treeB C I g_law10_CheckMore.a6 (.two 9 R_t26 R_t33) (St.mk s o) K =
 ((([] : List Nat) = [] ∧ (demand (extV (s 49) 0) (fun x1 =>
treeB C I g_law10_CheckMore.a6 R_t26 (St.mk (upd s 58 x1) o) K))) ∧ treeB C I g_law10_CheckMore.a6 R_t33 (St.mk s o) K) := rfl
@[instance] theorem g_law10_CheckMore_t34_u : UnfAt (treeB C I g_law10_CheckMore.a6 g_law10_CheckMore.t34 (St.mk s o) K) g_law10_CheckMore_t34_sh := Unf.of _
theorem g_law10_CheckMore_t35_sh : treeB C I g_law10_CheckMore.a6 (.one 8 R_t34) (St.mk s o) K =
 ((([] : List Nat) = [] ∧ (treeB C I g_law10_CheckMore.a6 R_t34 (St.mk (upd s 49 (s 57)) o) K))) := rfl
@[instance] theorem g_law10_CheckMore_t35_u : UnfAt (treeB C I g_law10_CheckMore.a6 g_law10_CheckMore.t35 (St.mk s o) K) g_law10_CheckMore_t35_sh := Unf.of _
theorem g_law10_CheckMore_t36_sh : treeB C I g_law10_CheckMore.a6 (.one 7 R_t35) (St.mk s o) K =
 ((([] : List Nat) = [] ∧ (callE C I (St.mk s o) (some 57) 163 [(s 50), (s 51), (s 56)] (fun r1 or1 =>
treeB C I g_law10_CheckMore.a6 R_t35 (St.mk (upd s 57 r1) or1) K)))) := rfl
@[instance] theorem g_law10_CheckMore_t36_u : UnfAt (treeB C I g_law10_CheckMore.a6 g_law10_CheckMore.t36 (St.mk s o) K) g_law10_CheckMore_t36_sh := Unf.of _
theorem g_law10_CheckMore_t37_sh : treeB C I g_law10_CheckMore.a6 (.one 6 R_t36) (St.mk s o) K =
 ((([] : List Nat) = [] ∧ ((lstK (readD o (s 55)) (fun ys1 => (∀ e ∈ ys1, e.length = 2) ∧ appK (s 54)
 (ys1.length * 24 ≤ 140737488355328 ∧ ys1.length ≤ 140737488355328 ∧
treeB C I g_law10_CheckMore.a6 R_t36 (St.mk (upd s 56 (V.d (D.sl ys1))) o) K)
 (fun m2 => ¬ I m2 ∧ rowK (o m2) (fun z3 es4 => z3 = 2 ∧ (es4.length + ys1.length) * 24 ≤ 140737488355328 ∧ es4.length + ys1.length ≤ 140737488355328 ∧
freeK (St.mk (upd (fun t => scrubV m2 (s t)) 56 (V.own m2)) (upd (fun n => (o n).map (Ob.scrub m2)) m2 (some (Ob.row 2 (es4 ++ ys1))))) m2 (fun st5 =>
treeB C I g_law10_CheckMore.a6 R_t36 (St.mk st5.s st5.o) K))))) ∧ ∀ m, (s 54) = .own m → ∀ n cs, o n = some (.box cs) → V.refsL m cs = false))) := rfl
@[instance] theorem g_law10_CheckMore_t37_u : UnfAt (treeB C I g_law10_CheckMore.a6 g_law10_CheckMore.t37 (St.mk s o) K) g_law10_CheckMore_t37_sh := Unf.of _
theorem g_law10_CheckMore_t38_sh : treeB C I g_law10_CheckMore.a6 (.one 4 R_t37) (St.mk s o) K =
 ((([] : List Nat) = [] ∧ ((lstK (readD o (s 53)) (fun ys1 => (∀ e ∈ ys1, e.length = 2) ∧ appK (s 52)
 (ys1.length * 24 ≤ 140737488355328 ∧ ys1.length ≤ 140737488355328 ∧ ¬ I 54 ∧ Fresh (St.mk s o) 54 (some 54) ∧
treeB C I g_law10_CheckMore.a6 R_t37 (St.mk (upd s 54 (V.own 54)) (upd o 54 (some (Ob.row 2 ys1)))) K)
 (fun m2 => ¬ I m2 ∧ rowK (o m2) (fun z3 es4 => z3 = 2 ∧ (es4.length + ys1.length) * 24 ≤ 140737488355328 ∧ es4.length + ys1.length ≤ 140737488355328 ∧
treeB C I g_law10_CheckMore.a6 R_t37 (St.mk (upd (fun t => scrubV m2 (s t)) 54 (V.own m2)) (upd (fun n => (o n).map (Ob.scrub m2)) m2 (some (Ob.row 2 (es4 ++ ys1))))) K)))) ∧ ∀ m, (s 52) = .own m → ∀ n cs, o n = some (.box cs) → V.refsL m cs = false))) := rfl
@[instance] theorem g_law10_CheckMore_t38_u : UnfAt (treeB C I g_law10_CheckMore.a6 g_law10_CheckMore.t38 (St.mk s o) K) g_law10_CheckMore_t38_sh := Unf.of _
theorem g_law10_CheckMore_i10_sh : drawB C I g_law10_CheckMore.a6 (5 :: []) R_t38 (St.mk s o) K =
 ((s 55) = V.undef ∧ (quietV o ((s 3) :: [(s 3)]) ∧
treeB C I g_law10_CheckMore.a6 R_t38 (St.mk (upd s 55 (s 3)) o) K)) := rfl
@[instance] theorem g_law10_CheckMore_i10_u : UnfAt (drawB C I g_law10_CheckMore.a6 g_law10_CheckMore.i10 g_law10_CheckMore.t38 (St.mk s o) K) g_law10_CheckMore_i10_sh := Unf.of _
theorem g_law10_CheckMore_i9_sh : drawB C I g_law10_CheckMore.a6 (3 :: R_i10) R_t38 (St.mk s o) K =
 ((s 53) = V.undef ∧ (quietV o ((s 2) :: [(s 2)]) ∧
drawB C I g_law10_CheckMore.a6 R_i10 R_t38 (St.mk (upd s 53 (s 2)) o) K)) := rfl
@[instance] theorem g_law10_CheckMore_i9_u : UnfAt (drawB C I g_law10_CheckMore.a6 g_law10_CheckMore.i9 g_law10_CheckMore.t38 (St.mk s o) K) g_law10_CheckMore_i9_sh := Unf.of _
theorem g_law10_CheckMore_i8_sh : drawB C I g_law10_CheckMore.a6 (2 :: R_i9) R_t38 (St.mk s o) K =
 ((s 52) = V.undef ∧ (0 = 0 ∧ quietV o (V.cap0 :: []) ∧
drawB C I g_law10_CheckMore.a6 R_i9 R_t38 (St.mk (upd s 52 V.cap0) o) K)) := rfl
@[instance] theorem g_law10_CheckMore_i8_u : UnfAt (drawB C I g_law10_CheckMore.a6 g_law10_CheckMore.i8 g_law10_CheckMore.t38 (St.mk s o) K) g_law10_CheckMore_i8_sh := Unf.of _
theorem g_law10_CheckMore_i7_sh : drawB C I g_law10_CheckMore.a6 (1 :: R_i8) R_t38 (St.mk s o) K =
 ((s 51) = V.undef ∧ (quietV o ((s 1) :: [(s 1)]) ∧
drawB C I g_law10_CheckMore.a6 R_i8 R_t38 (St.mk (upd s 51 (s 1)) o) K)) := rfl
@[instance] theorem g_law10_CheckMore_i7_u : UnfAt (drawB C I g_law10_CheckMore.a6 g_law10_CheckMore.i7 g_law10_CheckMore.t38 (St.mk s o) K) g_law10_CheckMore_i7_sh := Unf.of _
theorem g_law10_CheckMore_t43_sh : treeB C I g_law10_CheckMore.a39 (.one 13 .done) (St.mk s o) K =
 ((([] : List Nat) = [] ∧ (K (St.mk (upd s 17 (s 71)) o)))) := rfl
@[instance] theorem g_law10_CheckMore_t43_u : UnfAt (treeB C I g_law10_CheckMore.a39 g_law10_CheckMore.t43 (St.mk s o) K) g_law10_CheckMore_t43_sh := Unf.of _
theorem g_law10_CheckMore_t44_sh : treeB C I g_law10_CheckMore.a39 (.one 12 R_t43) (St.mk s o) K =
 ((([] : List Nat) = [] ∧ (treeB C I g_law10_CheckMore.a39 R_t43 (St.mk (upd s 16 (s 70)) o) K))) := rfl
@[instance] theorem g_law10_CheckMore_t44_u : UnfAt (treeB C I g_law10_CheckMore.a39 g_law10_CheckMore.t44 (St.mk s o) K) g_law10_CheckMore_t44_sh := Unf.of _
theorem g_law10_CheckMore_t45_sh : treeB C I g_law10_CheckMore.a39 (.one 11 R_t44) (St.mk s o) K =
 ((([] : List Nat) = [] ∧ (treeB C I g_law10_CheckMore.a39 R_t44 (St.mk (upd s 15 (s 69)) o) K))) := rfl
@[instance] theorem g_law10_CheckMore_t45_u : UnfAt (treeB C I g_law10_CheckMore.a39 g_law10_CheckMore.t45 (St.mk s o) K) g_law10_CheckMore_t45_sh := Unf.of _
theorem g_law10_CheckMore_t46_sh : treeB C I g_law10_CheckMore.a39 (.one 10 R_t43) (St.mk s o) K =
 ((([] : List Nat) = [] ∧ (demand (extV (s 61) 2) (fun x1 =>
treeB C I g_law10_CheckMore.a39 R_t43 (St.mk (upd s 71 x1) o) K)))) := rfl
@[instance] theorem g_law10_CheckMore_t46_u : UnfAt (treeB C I g_law10_CheckMore.a39 g_law10_CheckMore.t46 (St.mk s o) K) g_law10_CheckMore_t46_sh := Unf.of _
theorem g_law10_CheckMore_t47_sh : treeB C I g_law10_CheckMore.a39 (.one 12 R_t46) (St.mk s o) K =
 ((([] : List Nat) = [] ∧ (treeB C I g_law10_CheckMore.a39 R_t46 (St.mk (upd s 16 (s 70)) o) K))) := rfl
@[instance] theorem g_law10_CheckMore_t47_u : UnfAt (treeB C I g_law10_CheckMore.a39 g_law10_CheckMore.t47 (St.mk s o) K) g_law10_CheckMore_t47_sh := Unf.of _
theorem g_law10_CheckMore_t48_sh : treeB C I g_law10_CheckMore.a39 (.two 10 R_t44 R_t47) (St.mk s o) K =
 ((([] : List Nat) = [] ∧ (demand (extV (s 61) 2) (fun x1 =>
treeB C I g_law10_CheckMore.a39 R_t44 (St.mk (upd s 71 x1) o) K))) ∧ treeB C I g_law10_CheckMore.a39 R_t47 (St.mk s o) K) := rfl
@[instance] theorem g_law10_CheckMore_t48_u : UnfAt (treeB C I g_law10_CheckMore.a39 g_law10_CheckMore.t48 (St.mk s o) K) g_law10_CheckMore_t48_sh := Unf.of _
theorem g_law10_CheckMore_t49_sh : treeB C I g_law10_CheckMore.a39 (.one 11 R_t48) (St.mk s o) K =
 ((([] : List Nat) = [] ∧ (treeB C I g_law10_CheckMore.a39 R_t48 (St.mk (upd s 15 (s 69)) o) K))) := rfl
@[instance] theorem g_law10_CheckMore_t49_u : UnfAt (treeB C I g_law10_CheckMore.a39 g_law10_CheckMore.t49 (St.mk s o) K) g_law10_CheckMore_t49_sh := Unf.of _
theorem g_law10_CheckMore_t50_sh : treeB C I g_law10_CheckMore.a39 (.two 10 R_t45 R_t49) (St.mk s o) K =
 ((([] : List Nat) = [] ∧ (demand (extV (s 61) 2) (fun x1 =>
treeB C I g_law10_CheckMore.a39 R_t45 (St.mk (upd s 71 x1) o) K))) ∧ treeB C I g_law10_CheckMore.a39 R_t49 (St.mk s o) K) := rfl
@[instance] theorem g_law10_CheckMore_t50_u : UnfAt (treeB C I g_law10_CheckMore.a39 g_law10_CheckMore.t50 (St.mk s o) K) g_law10_CheckMore_t50_sh := Unf.of _
theorem g_law10_CheckMore_t51_sh : treeB C I g_law10_CheckMore.a39 (.one 9 R_t44) (St.mk s o) K =
 ((([] : List Nat) = [] ∧ (demand (extV (s 61) 1) (fun x1 =>
treeB C I g_law10_CheckMore.a39 R_t44 (St.mk (upd s 70 x1) o) K)))) := rfl
@[instance] theorem g_law10_CheckMore_t51_u : UnfAt (treeB C I g_law10_CheckMore.a39 g_law10_CheckMore.t51 (St.mk s o) K) g_law10_CheckMore_t51_sh := Unf.of _
theorem g_law10_CheckMore_t52_sh : treeB C I g_law10_CheckMore.a39 (.one 11 R_t51) (St.mk s o) K =
 ((([] : List Nat) = [] ∧ (treeB C I g_law10_CheckMore.a39 R_t51 (St.mk (upd s 15 (s 69)) o) K))) := rfl
@[instance] theorem g_law10_CheckMore_t52_u : UnfAt (treeB C I g_law10_CheckMore.a39 g_law10_CheckMore.t52 (St.mk s o) K) g_law10_CheckMore_t52_sh := Unf.of _
theorem g_law10_CheckMore_t53_sh : treeB C I g_law10_CheckMore.a39 (.two 9 R_t45 R_t52) (St.mk s o) K =
 ((([] : List Nat) = [] ∧ (demand (extV (s 61) 1) (fun x1 =>
treeB C I g_law10_CheckMore.a39 R_t45 (St.mk (upd s 70 x1) o) K))) ∧ treeB C I g_law10_CheckMore.a39 R_t52 (St.mk s o) K) := rfl
@[instance] theorem g_law10_CheckMore_t53_u : UnfAt (treeB C I g_law10_CheckMore.a39 g_law10_CheckMore.t53 (St.mk s o) K) g_law10_CheckMore_t53_sh := Unf.of _
theorem g_law10_CheckMore_t54_sh : treeB C I g_law10_CheckMore.a39 (.one 10 R_t51) (St.mk s o) K =
 ((([] : List Nat) = [] ∧ (demand (extV (s 61) 2) (fun x1 =>
treeB C I g_law10_CheckMore.a39 R_t51 (St.mk (upd s 71 x1) o) K)))) := rfl
@[instance] theorem g_law10_CheckMore_t54_u : UnfAt (treeB C I g_law10_CheckMore.a39 g_law10_CheckMore.t54 (St.mk s o) K) g_law10_CheckMore_t54_sh := Unf.of _
theorem g_law10_CheckMore_t55_sh : treeB C I g_law10_CheckMore.a39 (.two 9 R_t48 R_t54) (St.mk s o) K =
 ((([] : List Nat) = [] ∧ (demand (extV (s 61) 1) (fun x1 =>
treeB C I g_law10_CheckMore.a39 R_t48 (St.mk (upd s 70 x1) o) K))) ∧ treeB C I g_law10_CheckMore.a39 R_t54 (St.mk s o) K) := rfl
@[instance] theorem g_law10_CheckMore_t55_u : UnfAt (treeB C I g_law10_CheckMore.a39 g_law10_CheckMore.t55 (St.mk s o) K) g_law10_CheckMore_t55_sh := Unf.of _
theorem g_law10_CheckMore_t56_sh : treeB C I g_law10_CheckMore.a39 (.one 11 R_t55) (St.mk s o) K =
 ((([] : List Nat) = [] ∧ (treeB C I g_law10_CheckMore.a39 R_t55 (St.mk (upd s 15 (s 69)) o) K))) := rfl
@[instance] theorem g_law10_CheckMore_t56_u : UnfAt (treeB C I g_law10_CheckMore.a39 g_law10_CheckMore.t56 (St.mk s o) K) g_law10_CheckMore_t56_sh := Unf.of _
theorem g_law10_CheckMore_t57_sh : treeB C I g_law10_CheckMore.a39 (.two 10 R_t53 R_t56) (St.mk s o) K =
 ((([] : List Nat) = [] ∧ (demand (extV (s 61) 2) (fun x1 =>
treeB C I g_law10_CheckMore.a39 R_t53 (St.mk (upd s 71 x1) o) K))) ∧ treeB C I g_law10_CheckMore.a39 R_t56 (St.mk s o) K) := rfl
@[instance] theorem g_law10_CheckMore_t57_u : UnfAt (treeB C I g_law10_CheckMore.a39 g_law10_CheckMore.t57 (St.mk s o) K) g_law10_CheckMore_t57_sh := Unf.of _
theorem g_law10_CheckMore_t58_sh : treeB C I g_law10_CheckMore.a39 (.two 9 R_t50 R_t57) (St.mk s o) K =
 ((([] : List Nat) = [] ∧ (demand (extV (s 61) 1) (fun x1 =>
treeB C I g_law10_CheckMore.a39 R_t50 (St.mk (upd s 70 x1) o) K))) ∧ treeB C I g_law10_CheckMore.a39 R_t57 (St.mk s o) K) := rfl
@[instance] theorem g_law10_CheckMore_t58_u : UnfAt (treeB C I g_law10_CheckMore.a39 g_law10_CheckMore.t58 (St.mk s o) K) g_law10_CheckMore_t58_sh := Unf.of _
theorem g_law10_CheckMore_t59_sh : treeB C I g_law10_CheckMore.a39 (.one 8 R_t45) (St.mk s o) K =
 ((([] : List Nat) = [] ∧ (demand (extV (s 61) 0) (fun x1 =>
treeB C I g_law10_CheckMore.a39 R_t45 (St.mk (upd s 69 x1) o) K)))) := rfl
@[instance] theorem g_law10_CheckMore_t59_u : UnfAt (treeB C I g_law10_CheckMore.a39 g_law10_CheckMore.t59 (St.mk s o) K) g_law10_CheckMore_t59_sh := Unf.of _
theorem g_law10_CheckMore_t60_sh : treeB C I g_law10_CheckMore.a39 (.one 10 R_t59) (St.mk s o) K =
 ((([] : List Nat) = [] ∧ (demand (extV (s 61) 2) (fun x1 =>
treeB C I g_law10_CheckMore.a39 R_t59 (St.mk (upd s 71 x1) o) K)))) := rfl
@[instance] theorem g_law10_CheckMore_t60_u : UnfAt (treeB C I g_law10_CheckMore.a39 g_law10_CheckMore.t60 (St.mk s o) K) g_law10_CheckMore_t60_sh := Unf.of _
theorem g_law10_CheckMore_t61_sh : treeB C I g_law10_CheckMore.a39 (.two 8 R_t50 R_t60) (St.mk s o) K =
 ((([] : List Nat) = [] ∧ (demand (extV (s 61) 0) (fun x1 =>
treeB C I g_law10_CheckMore.a39 R_t50 (St.mk (upd s 69 x1) o) K))) ∧ treeB C I g_law10_CheckMore.a39 R_t60 (St.mk s o) K) := rfl
@[instance] theorem g_law10_CheckMore_t61_u : UnfAt (treeB C I g_law10_CheckMore.a39 g_law10_CheckMore.t61 (St.mk s o) K) g_law10_CheckMore_t61_sh := Unf.of _
theorem g_law10_CheckMore_t62_sh : treeB C I g_law10_CheckMore.a39 (.one 9 R_t59) (St.mk s o) K =
 ((([] : List Nat) = [] ∧ (demand (extV (s 61) 1) (fun x1 =>
treeB C I g_law10_CheckMore.a39 R_t59 (St.mk (upd s 70 x1) o) K)))) := rfl
@[instance] theorem g_law10_CheckMore_t62_u : UnfAt (treeB C I g_law10_CheckMore.a39 g_law10_CheckMore.t62 (St.mk s o) K) g_law10_CheckMore_t62_sh := Unf.of _
theorem g_law10_CheckMore_t63_sh : treeB C I g_law10_CheckMore.a39 (.two 8 R_t53 R_t62) (St.mk s o) K =
 ((([] : List Nat) = [] ∧ (demand (extV (s 61) 0) (fun x1 =>
treeB C I g_law10_CheckMore.a39 R_t53 (St.mk (upd s 69 x1) o) K))) ∧ treeB C I g_law10_CheckMore.a39 R_t62 (St.mk s o) K) := rfl
@[instance] theorem g_law10_CheckMore_t63_u : UnfAt (treeB C I g_law10_CheckMore.a39 g_law10_CheckMore.t63 (St.mk s o) K) g_law10_CheckMore_t63_sh := Unf.of _
theorem g_law10_CheckMore_t64_sh : treeB C I g_law10_CheckMore.a39 (.one 10 R_t63) (St.mk s o) K =
 ((([] : List Nat) = [] ∧ (demand (extV (s 61) 2) (fun x1 =>
treeB C I g_law10_CheckMore.a39 R_t63 (St.mk (upd s 71 x1) o) K)))) := rfl
@[instance] theorem g_law10_CheckMore_t64_u : UnfAt (treeB C I g_law10_CheckMore.a39 g_law10_CheckMore.t64 (St.mk s o) K) g_law10_CheckMore_t64_sh := Unf.of _
theorem g_law10_CheckMore_t65_sh : treeB C I g_law10_CheckMore.a39 (.two 9 R_t61 R_t64) (St.mk s o) K =
 ((([] : List Nat) = [] ∧ (demand (extV (s 61) 1) (fun x1 =>
treeB C I g_law10_CheckMore.a39 R_t61 (St.mk (upd s 70 x1) o) K))) ∧ treeB C I g_law10_CheckMore.a39 R_t64 (St.mk s o) K) := rfl
@[instance] theorem g_law10_CheckMore_t65_u : UnfAt (treeB C I g_law10_CheckMore.a39 g_law10_CheckMore.t65 (St.mk s o) K) g_law10_CheckMore_t65_sh := Unf.of _
theorem g_law10_CheckMore_t66_sh : treeB C I g_law10_CheckMore.a39 (.two 8 R_t58 R_t65) (St.mk s o) K =
 ((([] : List Nat) = [] ∧ (demand (extV (s 61) 0) (fun x1 =>
treeB C I g_law10_CheckMore.a39 R_t58 (St.mk (upd s 69 x1) o) K))) ∧ treeB C I g_law10_CheckMore.a39 R_t65 (St.mk s o) K) := rfl
@[instance] theorem g_law10_CheckMore_t66_u : UnfAt (treeB C I g_law10_CheckMore.a39 g_law10_CheckMore.t66 (St.mk s o) K) g_law10_CheckMore_t66_sh := Unf.of _
theorem g_law10_CheckMore_t67_sh : treeB C I g_law10_CheckMore.a39 (.one 7 R_t66) (St.mk s o) K =
 ((([] : List Nat) = [] ∧ (treeB C I g_law10_CheckMore.a39 R_t66 (St.mk (upd s 61 (s 68)) o) K))) := rfl
@[instance] theorem g_law10_CheckMore_t67_u : UnfAt (treeB C I g_law10_CheckMore.a39 g_law10_CheckMore.t67 (St.mk s o) K) g_law10_CheckMore_t67_sh := Unf.of _
theorem g_law10_CheckMore_t68_sh : treeB C I g_law10_CheckMore.a39 (.one 6 R_t67) (St.mk s o) K =
 ((([] : List Nat) = [] ∧ (callE C I (St.mk s o) (some 68) 163 [(s 62), (s 63), (s 67)] (fun r1 or1 =>
treeB C I g_law10_CheckMore.a39 R_t67 (St.mk (upd s 68 r1) or1) K)))) := rfl
@[instance] theorem g_law10_CheckMore_t68_u : UnfAt (treeB C I g_law10_CheckMore.a39 g_law10_CheckMore.t68 (St.mk s o) K) g_law10_CheckMore_t68_sh := Unf.of _
theorem g_law10_CheckMore_t69_sh : treeB C I g_law10_CheckMore.a39 (.one 5 R_t68) (St.mk s o) K =
 ((([] : List Nat) = [] ∧ ((lstK (readD o (s 66)) (fun ys1 => (∀ e ∈ ys1, e.length = 2) ∧ appK (s 65)
 (ys1.length * 24 ≤ 140737488355328 ∧ ys1.length ≤ 140737488355328 ∧
treeB C I g_law10_CheckMore.a39 R_t68 (St.mk (upd s 67 (V.d (D.sl ys1))) o) K)
 (fun m2 => ¬ I m2 ∧ rowK (o m2) (fun z3 es4 => z3 = 2 ∧ (es4.length + ys1.length) * 24 ≤ 140737488355328 ∧ es4.length + ys1.length ≤ 140737488355328 ∧
freeK (St.mk (upd (fun t => scrubV m2 (s t)) 67 (V.own m2)) (upd (fun n => (o n).map (Ob.scrub m2)) m2 (some (Ob.row 2 (es4 ++ ys1))))) m2 (fun st5 =>
treeB C I g_law10_CheckMore.a39 R_t68 (St.mk st5.s st5.o) K))))) ∧ ∀ m, (s 65) = .own m → ∀ n cs, o n = some (.box cs) → V.refsL m cs = false))) := rfl
@[instance] theorem g_law10_CheckMore_t69_u : UnfAt (treeB C I g_law10_CheckMore.a39 g_law10_CheckMore.t69 (St.mk s o) K) g_law10_CheckMore_t69_sh := Unf.of _
theorem g_law10_CheckMore_t70_sh : treeB C I g_law10_CheckMore.a39 (.one 3 R_t69) (St.mk s o) K =
 ((([] : List Nat) = [] ∧ (lstK (partsN 2 [(s 64)]) (fun es1 => ¬ I 65 ∧ Fresh (St.mk s o) 65 (some 65) ∧
treeB C I g_law10_CheckMore.a39 R_t69 (St.mk (upd s 65 (V.own 65)) (upd o 65 (some (Ob.row 2 es1)))) K)))) := rfl
@[instance] theorem g_law10_CheckMore_t70_u : UnfAt (treeB C I g_law10_CheckMore.a39 g_law10_CheckMore.t70 (St.mk s o) K) g_law10_CheckMore_t70_sh := Unf.of _
theorem g_law10_CheckMore_i42_sh : drawB C I g_law10_CheckMore.a39 (4 :: []) R_t70 (St.mk s o) K =
 ((s 66) = V.undef ∧ (quietV o ((s 2) :: [(s 2)]) ∧
treeB C I g_law10_CheckMore.a39 R_t70 (St.mk (upd s 66 (s 2)) o) K)) := rfl
@[instance] theorem g_law10_CheckMore_i42_u : UnfAt (drawB C I g_law10_CheckMore.a39 g_law10_CheckMore.i42 g_law10_CheckMore.t70 (St.mk s o) K) g_law10_CheckMore_i42_sh := Unf.of _
theorem g_law10_CheckMore_i41_sh : drawB C I g_law10_CheckMore.a39 (2 :: R_i42) R_t70 (St.mk s o) K =
 ((s 64) = V.undef ∧ (demand ((buildN [V.d (.str []), V.d (.int .i64 0)] [(0, 1, (V.d (.str [78, 111, 98, 111, 100, 121]))), (1, 1, (V.d (.int .i64 1)))]).map V.agg) (fun x1 => quietV o (x1 :: [(V.d (.str [78, 111, 98, 111, 100, 121])), (V.d (.int .i64 1))]) ∧
drawB C I g_law10_CheckMore.a39 R_i42 R_t70 (St.mk (upd s 64 x1) o) K))) := rfl
@[instance] theorem g_law10_CheckMore_i41_u : UnfAt (drawB C I g_law10_CheckMore.a39 g_law10_CheckMore.i41 g_law10_CheckMore.t70 (St.mk s o) K) g_law10_CheckMore_i41_sh := Unf.of _
theorem g_law10_CheckMore_i40_sh : drawB C I g_law10_CheckMore.a39 (1 :: R_i41) R_t70 (St.mk s o) K =
 ((s 63) = V.undef ∧ (quietV o ((s 1) :: [(s 1)]) ∧
drawB C I g_law10_CheckMore.a39 R_i41 R_t70 (St.mk (upd s 63 (s 1)) o) K)) := rfl
@[instance] theorem g_law10_CheckMore_i40_u : UnfAt (drawB C I g_law10_CheckMore.a39 g_law10_CheckMore.i40 g_law10_CheckMore.t70 (St.mk s o) K) g_law10_CheckMore_i40_sh := Unf.of _
theorem g_law10_CheckMore_c1_sh : wpB C I (g_law10_CheckMore.c1) (St.mk s o) Q =
 (demand (faddrV 1 (s 19)) (fun x1 =>
demand (loadV o none x1) (fun x2 =>
demand (binV BinOp.eql x2 (V.d (.str [78, 111, 98, 111, 100, 121]))) (fun x3 =>
condK x3
 (callK C I (St.mk (look [(9, s 9), (11, s 11), (12, s 12), (14, s 14), (15, s 15), (17, s 17), (73, s 73), (74, s 74), (75, s 75), (81, x3)]) (looko ([].map fun n => (n, o n)))) (some 82) 162 [] (fun r4 or4 =>
Q .ret (St.mk (look [(8, r4)]) (looko ([].map fun n => (n, or4 n))))))
 (Q .normal (St.mk (look [(9, s 9), (11, s 11), (12, s 12), (14, s 14), (15, s 15), (17, s 17), (73, s 73), (74, s 74), (75, s 75), (81, x3)]) (looko ([].map fun n => (n, o n))))))))) := rfl
@[instance] theorem g_law10_CheckMore_c1_u : UnfAt (wpB C I g_law10_CheckMore.c1 (St.mk s o) Q) g_law10_CheckMore_c1_sh := Unf.of _
theorem g_law10_CheckMore_c2_sh : wpB C I (g_law10_CheckMore.c2) (St.mk s o) Q =
 (demand (binV BinOp.add (s 75) (V.d (.int .i64 1))) (fun x1 =>
Q .normal (St.mk (look [(9, s 9), (11, s 11), (12, s 12), (14, s 14), (15, s 15), (17, s 17), (73, s 73), (74, s 74), (75, x1)]) (looko ([].map fun n => (n, o n)))))) := rfl
@[instance] theorem g_law10_CheckMore_c2_u : UnfAt (wpB C I g_law10_CheckMore.c2 (St.mk s o) Q) g_law10_CheckMore_c2_sh := Unf.of _
theorem g_law10_CheckMore_l0_sh (hL : R_l0 = g_law10_CheckMore.l0F R_c1 R_c2)
 (h : demand (binV BinOp.lss (s 75) (s 74)) (fun x1 =>
condK x1
 (demand (iaddrV (looko ([].map fun n => (n, o n))) 6 (s 73) (s 75)) (fun x2 =>
demand (loadV (looko ([].map fun n => (n, o n))) (some 6) x2) (fun x3 =>
(¬ I 19 ∧ Fresh (St.mk (upd (upd (look [(9, s 9), (11, s 11), (12, s 12), (14, s 14), (15, s 15), (17, s 17), (73, s 73), (74, s 74), (75, s 75), (76, x1)]) 77 x2) 78 x3) (looko ([].map fun n => (n, o n)))) 19 (some 19) ∧ V.refsL 19 [V.d (.str []), V.d (.str []), V.d (.int .i64 0), V.d (.int .i64 0), V.d (.int .i64 0), V.d (.int .i64 0)] = false ∧
storeK (V.ptr 19 0) (cellsV x3) 6 (upd (looko ([].map fun n => (n, o n))) 19 (some (Ob.box [V.d (.str []), V.d (.str []), V.d (.int .i64 0), V.d (.int .i64 0), V.d (.int .i64 0), V.d (.int .i64 0)]))) (fun m4 ob5 =>
wpB C I R_c1 (St.mk (look [(9, s 9), (11, s 11), (12, s 12), (14, s 14), (15, s 15), (17, s 17), (19, (V.ptr 19 0)), (73, s 73), (74, s 74), (75, s 75)]) (looko ([19].map fun n => (n, (upd (upd (looko ([].map fun n => (n, o n))) 19 (some (Ob.box [V.d (.str []), V.d (.str []), V.d (.int .i64 0), V.d (.int .i64 0), V.d (.int .i64 0), V.d (.int .i64 0)]))) m4 (some ob5)) n)))) (blockK 1 [9, 11, 12, 14, 15, 17, 73, 74, 75] (some []) (seqK (fun st => wpB C I R_c2 st (seqK (fun s => wpB C I R_l0 s Q) Q)) (seqK (fun s => wpB C I R_l0 s Q) Q))))))))
 (Q (.exit 0) (St.mk (look [(9, s 9), (11, s 11), (12, s 12), (14, s 14), (15, s 15), (17, s 17), (73, s 73), (74, s 74), (75, s 75), (76, x1)]) (looko ([].map fun n => (n, o n))))))) : wpB C I R_l0 (St.mk s o) Q := w_loopC hL h
theorem g_law10_CheckMore_c3_sh : wpB C I (g_law10_CheckMore.c3F R_l0) (St.mk s o) Q =
 (wpB C I R_l0 (St.mk s o) (blockK 0 [9, 11, 12, 14, 15, 17] (some []) Q)) := rfl
@[instance] theorem g_law10_CheckMore_c3_u : UnfAt (wpB C I g_law10_CheckMore.c3 (St.mk s o) Q) g_law10_CheckMore_c3_sh := Unf.of _
theorem g_law10_CheckMore_o80_sh : opsB C I (g_law10_CheckMore.o80) (St.mk s o) K =
 (demand (pickV (s 105) (s 106) (V.d (.bool false))) (fun x1 =>
K (St.mk (upd (upd s 107 x1) 8 x1) o))) := rfl
@[instance] theorem g_law10_CheckMore_o80_u : UnfAt (opsB C I g_law10_CheckMore.o80 (St.mk s o) K) g_law10_CheckMore_o80_sh := Unf.of _
theorem g_law10_CheckMore_o79_sh : opsB C I (g_law10_CheckMore.o79F R_o80) (St.mk s o) K =
 (guardK (s 105) true
 (callK C I (St.mk (upd s 105 (V.d (D.bool true))) o) (some 106) 162 [] (fun r1 or1 =>
opsB C I R_o80 (St.mk (look [(105, (V.d (D.bool true))), (106, r1)]) (looko ([].map fun n => (n, or1 n)))) K))
 (opsB C I R_o80 (St.mk (look [(105, (V.d (D.bool false))), (106, (V.tup []))]) (looko ([].map fun n => (n, o n)))) K)
 (opsB C I R_o80 (St.mk (look [(105, (V.tup [])), (106, (V.tup []))]) (looko ([].map fun n => (n, o n)))) K)) := rfl
@[instance] theorem g_law10_CheckMore_o79_u : UnfAt (opsB C I g_law10_CheckMore.o79 (St.mk s o) K) g_law10_CheckMore_o79_sh := Unf.of _
theorem g_law10_CheckMore_o78_sh : opsB C I (g_law10_CheckMore.o78F R_o79) (St.mk s o) K =
 (demand (pickV (s 100) (s 103) (V.d (.bool false))) (fun x1 =>
opsB C I R_o79 (St.mk (look [(105, x1)]) (looko ([].map fun n => (n, o n)))) K)) := rfl
@[instance] theorem g_law10_CheckMore_o78_u : UnfAt (opsB C I g_law10_CheckMore.o78 (St.mk s o) K) g_law10_CheckMore_o78_sh := Unf.of _
theorem g_law10_CheckMore_o77_sh : opsB C I (g_law10_CheckMore.o77F R_o78) (St.mk s o) K =
 (guardK (s 100) true
 (demand (binV BinOp.eql (s 17) (s 11)) (fun x1 =>
opsB C I R_o78 (St.mk (look [(100, (V.d (D.bool true))), (103, x1)]) (looko ([].map fun n => (n, o n)))) K))
 (opsB C I R_o78 (St.mk (look [(100, (V.d (D.bool false))), (103, (V.tup []))]) (looko ([].map fun n => (n, o n)))) K)
 (opsB C I R_o78 (St.mk (look [(100, (V.tup [])), (103, (V.tup []))]) (looko ([].map fun n => (n, o n)))) K)) := rfl
@[instance] theorem g_law10_CheckMore_o77_u : UnfAt (opsB C I g_law10_CheckMore.o77 (St.mk s o) K) g_law10_CheckMore_o77_sh := Unf.of _
theorem g_law10_CheckMore_o76_sh : opsB C I (g_law10_CheckMore.o76F R_o77) (St.mk s o) K =
 (demand (pickV (s 95) (s 98) (V.d (.bool false))) (fun x1 =>
opsB C I R_o77 (St.mk (look [(11, s 11), (17, s 17), (100, x1)]) (looko ([].map fun n => (n, o n)))) K)) := rfl
@[instance] theorem g_law10_CheckMore_o76_u : UnfAt (opsB C I g_law10_CheckMore.o76 (St.mk s o) K) g_law10_CheckMore_o76_sh := Unf.of _
theorem g_law10_CheckMore_o75_sh : opsB C I (g_law10_CheckMore.o75F R_o76) (St.mk s o) K =
 (guardK (s 95) true
 (demand (binV BinOp.eql (s 15) (s 9)) (fun x1 =>
opsB C I R_o76 (St.mk (look [(11, s 11), (17, s 17), (95, (V.d (D.bool true))), (98, x1)]) (looko ([].map fun n => (n, o n)))) K))
 (opsB C I R_o76 (St.mk (look [(11, s 11), (17, s 17), (95, (V.d (D.bool false))), (98, (V.tup []))]) (looko ([].map fun n => (n, o n)))) K)
 (opsB C I R_o76 (St.mk (look [(11, s 11), (17, s 17), (95, (V.tup [])), (98, (V.tup []))]) (looko ([].map fun n => (n, o n)))) K)) := rfl
@[instance] theorem g_law10_CheckMore_o75_u : UnfAt (opsB C I g_law10_CheckMore.o75 (St.mk s o) K) g_law10_CheckMore_o75_sh := Unf.of _
theorem g_law10_CheckMore_o74_sh : opsB C I (g_law10_CheckMore.o74F R_o75) (St.mk s o) K =
 (demand (pickV (s 86) (V.d (.bool true)) (s 93)) (fun x1 =>
opsB C I R_o75 (St.mk (look [(9, s 9), (11, s 11), (15, s 15), (17, s 17), (95, x1)]) (looko ([].map fun n => (n, o n)))) K)) := rfl
@[instance] theorem g_law10_CheckMore_o74_u : UnfAt (opsB C I g_law10_CheckMore.o74 (St.mk s o) K) g_law10_CheckMore_o74_sh := Unf.of _
theorem g_law10_CheckMore_o73_sh : opsB C I (g_law10_CheckMore.o73F R_o74) (St.mk s o) K =
 (guardK (s 86) false
 (demand (pickV (s 89) (s 92) (V.d (.bool false))) (fun x1 =>
opsB C I R_o74 (St.mk (look [(9, s 9), (11, s 11), (15, s 15), (17, s 17), (86, (V.d (D.bool false))), (93, x1)]) (looko ([].map fun n => (n, o n)))) K))
 (opsB C I R_o74 (St.mk (look [(9, s 9), (11, s 11), (15, s 15), (17, s 17), (86, (V.d (D.bool true))), (93, (V.tup []))]) (looko ([].map fun n => (n, o n)))) K)
 (opsB C I R_o74 (St.mk (look [(9, s 9), (11, s 11), (15, s 15), (17, s 17), (86, (V.tup [])), (93, (V.tup []))]) (looko ([].map fun n => (n, o n)))) K)) := rfl
@[instance] theorem g_law10_CheckMore_o73_u : UnfAt (opsB C I g_law10_CheckMore.o73 (St.mk s o) K) g_law10_CheckMore_o73_sh := Unf.of _
theorem g_law10_CheckMore_o72_sh : opsB C I (g_law10_CheckMore.o72F R_o73) (St.mk s o) K =
 (guardK (s 89) true
 (demand (binV BinOp.eql (s 9) (s 12)) (fun x1 =>
opsB C I R_o73 (St.mk (look [(9, s 9), (11, s 11), (15, s 15), (17, s 17), (86, s 86), (89, (V.d (D.bool true))), (92, x1)]) (looko ([].map fun n => (n, o n)))) K))
 (opsB C I R_o73 (St.mk (look [(9, s 9), (11, s 11), (15, s 15), (17, s 17), (86, s 86), (89, (V.d (D.bool false))), (92, (V.tup []))]) (looko ([].map fun n => (n, o n)))) K)
 (opsB C I R_o73 (St.mk (look [(9, s 9), (11, s 11), (15, s 15), (17, s 17), (86, s 86), (89, (V.tup [])), (92, (V.tup []))]) (looko ([].map fun n => (n, o n)))) K)) := rfl
@[instance] theorem g_law10_CheckMore_o72_u : UnfAt (opsB C I g_law10_CheckMore.o72 (St.mk s o) K) g_law10_CheckMore_o72_sh := Unf.of _
theorem g_law10_CheckMore_o71_sh : opsB C I (g_law10_CheckMore.o71F R_o72) (St.mk s o) K =
 (guardK (s 86) false
 (demand (binV BinOp.eql (s 14) (V.d (.int .i64 0))) (fun x1 =>
opsB C I R_o72 (St.mk (look [(9, s 9), (11, s 11), (12, s 12), (15, s 15), (17, s 17), (86, (V.d (D.bool false))), (89, x1)]) (looko ([].map fun n => (n, o n)))) K))
 (opsB C I R_o72 (St.mk (look [(9, s 9), (11, s 11), (12, s 12), (15, s 15), (17, s 17), (86, (V.d (D.bool true))), (89, (V.tup []))]) (looko ([].map fun n => (n, o n)))) K)
 (opsB C I R_o72 (St.mk (look [(9, s 9), (11, s 11), (12, s 12), (15, s 15), (17, s 17), (86, (V.tup [])), (89, (V.tup []))]) (looko ([].map fun n => (n, o n)))) K)) := rfl
@[instance] theorem g_law10_CheckMore_o71_u : UnfAt (opsB C I g_law10_CheckMore.o71 (St.mk s o) K) g_law10_CheckMore_o71_sh := Unf.of _
theorem g_law10_CheckMore_c4_sh : wpB C I (g_law10_CheckMore.c4) (St.mk s o) Q =
 (Q .ret (St.mk s o)) := rfl
@[instance] theorem g_law10_CheckMore_c4_u : UnfAt (wpB C I g_law10_CheckMore.c4 (St.mk s o) Q) g_law10_CheckMore_c4_sh := Unf.of _
theorem g_law10_CheckMore_c5_sh : wpB C I (g_law10_CheckMore.c5F R_o71 R_c4) (St.mk s o) Q =
 (demand (binV BinOp.neq (s 11) (V.d (.int .i64 0))) (fun x1 =>
opsB C I R_o71 (St.mk (look [(9, s 9), (11, s 11), (12, s 12), (14, s 14), (15, s 15), (17, s 17), (86, x1)]) (looko ([].map fun n => (n, o n)))) (fun st => (seqK (fun st => wpB C I R_c4 st Q) Q) .normal (St.trim st [8] (some []))))) := rfl
@[instance] theorem g_law10_CheckMore_c5_u : UnfAt (wpB C I g_law10_CheckMore.c5 (St.mk s o) Q) g_law10_CheckMore_c5_sh := Unf.of _
theorem g_law10_CheckMore_c6_sh : wpB C I (g_law10_CheckMore.c6F R_c3 R_c5) (St.mk s o) Q =
 (demand (faddrV 1 (s 4)) (fun x1 =>
demand (loadV o none x1) (fun x2 =>
demand (lenV o x2) (fun x3 =>
wpB C I R_c3 (St.mk (look [(9, s 9), (11, s 11), (12, s 12), (14, s 14), (15, s 15), (17, s 17), (73, x2), (74, x3), (75, (V.d (.int .i64 0)))]) (looko ([].map fun n => (n, o n)))) (seqK (fun st => wpB C I R_c5 st Q) Q))))) := rfl
@[instance] theorem g_law10_CheckMore_c6_u : UnfAt (wpB C I g_law10_CheckMore.c6 (St.mk s o) Q) g_law10_CheckMore_c6_sh := Unf.of _
theorem g_law10_CheckMore_c7_sh : wpB C I (g_law10_CheckMore.c7F R_i40 R_t70 R_c6) (St.mk s o) Q =
 ((s 62) = V.undef ∧ (demand (loadV o (some 2) (s 4)) (fun x1 => quietV o (x1 :: [(s 4)]) ∧
drawB C I g_law10_CheckMore.a39 R_i40 R_t70 (St.mk (upd s 62 x1) o) (fun st => (seqK (fun st => wpB C I R_c6 st Q) Q) .normal (St.trim st [4, 9, 11, 12, 14, 15, 17] (some [4])))))) := rfl
@[instance] theorem g_law10_CheckMore_c7_u : UnfAt (wpB C I g_law10_CheckMore.c7 (St.mk s o) Q) g_law10_CheckMore_c7_sh := Unf.of _
theorem g_law10_CheckMore_c8_sh : wpB C I (g_law10_CheckMore.c8F R_i7 R_t38 R_c7) (St.mk s o) Q =
 ((s 50) = V.undef ∧ (demand (loadV o (some 2) (s 4)) (fun x1 => quietV o (x1 :: [(s 4)]) ∧
drawB C I g_law10_CheckMore.a6 R_i7 R_t38 (St.mk (upd s 50 x1) o) (fun st => (seqK (fun st => wpB C I R_c7 st Q) Q) .normal (St.trim st [1, 2, 4, 9, 11, 12, 14] (some [4])))))) := rfl
@[instance] theorem g_law10_CheckMore_c8_u : UnfAt (wpB C I g_law10_CheckMore.c8 (St.mk s o) Q) g_law10_CheckMore_c8_sh := Unf.of _
theorem g_law10_CheckMore_c9_sh : wpB C I (g_law10_CheckMore.c9F R_c8) (St.mk s o) Q =
 (demand (loadV o (some 2) (s 4)) (fun x1 =>
callK C I (St.mk (upd (upd (upd s 42 x1) 43 (s 1)) 44 (s 2)) o) (some 45) 163 [x1, (s 1), (s 2)] (fun r2 or2 =>
demand (extV r2 0) (fun x3 =>
demand (extV r2 1) (fun x4 =>
demand (extV r2 2) (fun x5 =>
wpB C I R_c8 (St.mk (look [(1, s 1), (2, s 2), (3, s 3), (4, s 4), (9, x3), (11, x5)]) (looko ([4].map fun n => (n, or2 n)))) Q)))))) := rfl
@[instance] theorem g_law10_CheckMore_c9_u : UnfAt (wpB C I g_law10_CheckMore.c9 (St.mk s o) Q) g_law10_CheckMore_c9_sh := Unf.of _
theorem g_law10_CheckMore_code_sh : wpB C I (g_law10_CheckMore.codeF R_o0 R_c0 R_c9) (St.mk s o) Q =
 (lstK (cellsV (s 0)) (fun c1 => c1.length = 2 ∧ ¬ I 4 ∧ Fresh (St.mk s o) 4 (some 4) ∧ V.refsL 4 c1 = false ∧
demand (faddrV 1 (V.ptr 4 0)) (fun x2 =>
demand (loadV (looko ([4].map fun n => (n, (upd o 4 (some (Ob.box c1))) n))) none x2) (fun x3 =>
demand (lenV (looko ([4].map fun n => (n, (upd o 4 (some (Ob.box c1))) n))) x3) (fun x4 =>
demand (binV BinOp.gtr x4 (V.d (.int .i64 300))) (fun x5 =>
opsB C I R_o0 (St.mk (look [(1, s 1), (2, s 2), (3, s 3), (4, (V.ptr 4 0)), (24, x5)]) (looko ([4].map fun n => (n, (upd o 4 (some (Ob.box c1))) n)))) (fun st => (seqK (fun st => wpB C I R_c0 st (seqK (fun st => wpB C I R_c9 st Q) Q)) (seqK (fun st => wpB C I R_c9 st Q) Q)) .normal (St.trim st [1, 2, 3, 4, 39] (some [4]))))))))) := rfl
@[instance] theorem g_law10_CheckMore_code_u : UnfAt (wpB C I g_law10_CheckMore.code (St.mk s o) Q) g_law10_CheckMore_code_sh := Unf.of _

end Pay
