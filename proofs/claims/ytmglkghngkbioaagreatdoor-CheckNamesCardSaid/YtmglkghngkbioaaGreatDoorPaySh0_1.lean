/- What the code of the functions comes to, without slots: an equation for each part; no condition. -/
import Derived.Test.YtmglkghngkbioaaGreatDoorPayBb0
import Derived.Test.YtmglkghngkbioaaGreatDoorPayCode0_0
set_option maxRecDepth 20000
set_option maxHeartbeats 400000
set_option linter.unusedVariables false
namespace Pay
open Go
variable {R_c0 R_c1 R_c2 R_c3 R_c4 R_c5 R_c6 R_c7 R_c8 R_l0 : ACode} {R_i1 R_i2 R_i3 R_i4 : List Nat} {R_o0 R_o1 R_o2 R_o3 : List AOper} {R_t5 R_t6 R_t7 R_t8 R_t9 R_t10 R_t11 R_t12 R_t13 R_t14 R_t15 R_t16 : Tr} {C : Ctx} {I : Nat → Prop} {s : Nat → V} {o : Nat → Option Ob} {K : St → Prop} {Q : Ex → St → Prop}
theorem g_slices_Index_string_code_sh : wpB C I (.seq (.region [0, 1] (some []) none
    [⟨some 4, .mv (.c (.d (.int .i64 0))), [], [], none, none⟩])
 (.seq (.seq (.region [0, 1, 7, 8] (some []) none
      [⟨some 6, .mv (.t 0), [], [], none, none⟩,
       ⟨some 7, .len (.t 6), [], [], none, none⟩,
       ⟨some 8, .mv (.c (.d (.int .i64 0))), [], [], none, none⟩])
   (.block 0 [] (some []) (R_l0)))
  (R_c1))) (St.mk s o) Q =
 (demand (lenV (looko ([].map fun n => (n, o n))) (s 0)) (fun x1 =>
wpB C I R_l0 (St.mk (look [(0, (s 0)), (1, (s 1)), (7, x1), (8, (V.d (.int .i64 0)))]) (looko ([].map fun n => (n, o n)))) (blockK 0 [] (some []) (seqK (fun st => wpB C I R_c1 st Q) Q)))) := rfl
@[instance] theorem g_slices_Index_string_code_u : UnfAt (wpB C I g_slices_Index_string.code (St.mk s o) Q) g_slices_Index_string_code_sh := Unf.of _
theorem g_tree_parser_put_t5_sh : treeB C I g_tree_parser_put.a0 (.one 12 .done) (St.mk s o) K =
 ((([] : List Nat) = [] ∧ (storeK (s 16) (cellsV (s 13)) 1 o (fun m1 ob2 =>
K (St.mk s (upd o m1 (some ob2))))))) := rfl
@[instance] theorem g_tree_parser_put_t5_u : UnfAt (treeB C I g_tree_parser_put.a0 g_tree_parser_put.t5 (St.mk s o) K) g_tree_parser_put_t5_sh := Unf.of _
theorem g_tree_parser_put_t6_sh : treeB C I g_tree_parser_put.a0 (.one 11 R_t5) (St.mk s o) K =
 ((([] : List Nat) = [] ∧ (demand (faddrV 1 (s 15)) (fun x1 =>
treeB C I g_tree_parser_put.a0 R_t5 (St.mk (upd s 16 x1) o) K)))) := rfl
@[instance] theorem g_tree_parser_put_t6_u : UnfAt (treeB C I g_tree_parser_put.a0 g_tree_parser_put.t6 (St.mk s o) K) g_tree_parser_put_t6_sh := Unf.of _
theorem g_tree_parser_put_t7_sh : treeB C I g_tree_parser_put.a0 (.one 10 R_t6) (St.mk s o) K =
 ((([] : List Nat) = [] ∧ (demand (faddrV 3 (s 14)) (fun x1 =>
treeB C I g_tree_parser_put.a0 R_t6 (St.mk (upd s 15 x1) o) K)))) := rfl
@[instance] theorem g_tree_parser_put_t7_u : UnfAt (treeB C I g_tree_parser_put.a0 g_tree_parser_put.t7 (St.mk s o) K) g_tree_parser_put_t7_sh := Unf.of _
theorem g_tree_parser_put_t8_sh : treeB C I g_tree_parser_put.a0 (.one 9 R_t7) (St.mk s o) K =
 ((([] : List Nat) = [] ∧ (demand (nilcV (s 5)) (fun x1 =>
treeB C I g_tree_parser_put.a0 R_t7 (St.mk (upd s 14 x1) o) K)))) := rfl
@[instance] theorem g_tree_parser_put_t8_u : UnfAt (treeB C I g_tree_parser_put.a0 g_tree_parser_put.t8 (St.mk s o) K) g_tree_parser_put_t8_sh := Unf.of _
theorem g_tree_parser_put_t9_sh : treeB C I g_tree_parser_put.a0 (.one 8 R_t8) (St.mk s o) K =
 ((([] : List Nat) = [] ∧ (lstK (readD o (s 12)) (fun ys1 => (∀ e ∈ ys1, e.length = 6) ∧ appK (s 10)
 (ys1.length * 64 ≤ 140737488355328 ∧ ys1.length ≤ 140737488355328 ∧ ¬ I 13 ∧ Fresh (St.mk s o) 13 (some 13) ∧
treeB C I g_tree_parser_put.a0 R_t8 (St.mk (upd s 13 (V.own 13)) (upd o 13 (some (Ob.row 6 ys1)))) K)
 (fun m2 => ¬ I m2 ∧ rowK (o m2) (fun z3 es4 => z3 = 6 ∧ (es4.length + ys1.length) * 64 ≤ 140737488355328 ∧ es4.length + ys1.length ≤ 140737488355328 ∧
treeB C I g_tree_parser_put.a0 R_t8 (St.mk (upd (fun t => scrubV m2 (s t)) 13 (V.own m2)) (upd (fun n => (o n).map (Ob.scrub m2)) m2 (some (Ob.row 6 (es4 ++ ys1))))) K)))))) := rfl
@[instance] theorem g_tree_parser_put_t9_u : UnfAt (treeB C I g_tree_parser_put.a0 g_tree_parser_put.t9 (St.mk s o) K) g_tree_parser_put_t9_sh := Unf.of _
theorem g_tree_parser_put_t10_sh : treeB C I g_tree_parser_put.a0 (.one 7 R_t9) (St.mk s o) K =
 ((([] : List Nat) = [] ∧ (lstK (partsN 6 [(s 11)]) (fun es1 =>
treeB C I g_tree_parser_put.a0 R_t9 (St.mk (upd s 12 (V.d (D.sl es1))) o) K)))) := rfl
@[instance] theorem g_tree_parser_put_t10_u : UnfAt (treeB C I g_tree_parser_put.a0 g_tree_parser_put.t10 (St.mk s o) K) g_tree_parser_put_t10_sh := Unf.of _
theorem g_tree_parser_put_t11_sh : treeB C I g_tree_parser_put.a0 (.one 6 R_t10) (St.mk s o) K =
 ((([] : List Nat) = [] ∧ (demand (loadV o (some 6) (s 3)) (fun x1 =>
treeB C I g_tree_parser_put.a0 R_t10 (St.mk (upd s 11 x1) o) K)))) := rfl
@[instance] theorem g_tree_parser_put_t11_u : UnfAt (treeB C I g_tree_parser_put.a0 g_tree_parser_put.t11 (St.mk s o) K) g_tree_parser_put_t11_sh := Unf.of _
theorem g_tree_parser_put_t12_sh : treeB C I g_tree_parser_put.a0 (.one 5 R_t9) (St.mk s o) K =
 ((([] : List Nat) = [] ∧ (demand (loadV o none (s 9)) (fun x1 =>
treeB C I g_tree_parser_put.a0 R_t9 (St.mk (upd s 10 x1) o) K)))) := rfl
@[instance] theorem g_tree_parser_put_t12_u : UnfAt (treeB C I g_tree_parser_put.a0 g_tree_parser_put.t12 (St.mk s o) K) g_tree_parser_put_t12_sh := Unf.of _
theorem g_tree_parser_put_t13_sh : treeB C I g_tree_parser_put.a0 (.one 7 R_t12) (St.mk s o) K =
 ((([] : List Nat) = [] ∧ (lstK (partsN 6 [(s 11)]) (fun es1 =>
treeB C I g_tree_parser_put.a0 R_t12 (St.mk (upd s 12 (V.d (D.sl es1))) o) K)))) := rfl
@[instance] theorem g_tree_parser_put_t13_u : UnfAt (treeB C I g_tree_parser_put.a0 g_tree_parser_put.t13 (St.mk s o) K) g_tree_parser_put_t13_sh := Unf.of _
theorem g_tree_parser_put_t14_sh : treeB C I g_tree_parser_put.a0 (.two 5 R_t10 R_t13) (St.mk s o) K =
 ((([] : List Nat) = [] ∧ (demand (loadV o none (s 9)) (fun x1 =>
treeB C I g_tree_parser_put.a0 R_t10 (St.mk (upd s 10 x1) o) K))) ∧ treeB C I g_tree_parser_put.a0 R_t13 (St.mk s o) K) := rfl
@[instance] theorem g_tree_parser_put_t14_u : UnfAt (treeB C I g_tree_parser_put.a0 g_tree_parser_put.t14 (St.mk s o) K) g_tree_parser_put_t14_sh := Unf.of _
theorem g_tree_parser_put_t15_sh : treeB C I g_tree_parser_put.a0 (.one 6 R_t14) (St.mk s o) K =
 ((([] : List Nat) = [] ∧ (demand (loadV o (some 6) (s 3)) (fun x1 =>
treeB C I g_tree_parser_put.a0 R_t14 (St.mk (upd s 11 x1) o) K)))) := rfl
@[instance] theorem g_tree_parser_put_t15_u : UnfAt (treeB C I g_tree_parser_put.a0 g_tree_parser_put.t15 (St.mk s o) K) g_tree_parser_put_t15_sh := Unf.of _
theorem g_tree_parser_put_t16_sh : treeB C I g_tree_parser_put.a0 (.two 5 R_t11 R_t15) (St.mk s o) K =
 ((([] : List Nat) = [] ∧ (demand (loadV o none (s 9)) (fun x1 =>
treeB C I g_tree_parser_put.a0 R_t11 (St.mk (upd s 10 x1) o) K))) ∧ treeB C I g_tree_parser_put.a0 R_t15 (St.mk s o) K) := rfl
@[instance] theorem g_tree_parser_put_t16_u : UnfAt (treeB C I g_tree_parser_put.a0 g_tree_parser_put.t16 (St.mk s o) K) g_tree_parser_put_t16_sh := Unf.of _
theorem g_tree_parser_put_i4_sh : drawB C I g_tree_parser_put.a0 (4 :: []) R_t16 (St.mk s o) K =
 ((s 9) = V.undef ∧ (demand (faddrV 1 (s 8)) (fun x1 => quietV o (x1 :: [(s 8)]) ∧
treeB C I g_tree_parser_put.a0 R_t16 (St.mk (upd s 9 x1) o) K))) := rfl
@[instance] theorem g_tree_parser_put_i4_u : UnfAt (drawB C I g_tree_parser_put.a0 g_tree_parser_put.i4 g_tree_parser_put.t16 (St.mk s o) K) g_tree_parser_put_i4_sh := Unf.of _
theorem g_tree_parser_put_i3_sh : drawB C I g_tree_parser_put.a0 (3 :: R_i4) R_t16 (St.mk s o) K =
 ((s 8) = V.undef ∧ (demand (faddrV 3 (s 7)) (fun x1 => quietV o (x1 :: [(s 7)]) ∧
drawB C I g_tree_parser_put.a0 R_i4 R_t16 (St.mk (upd s 8 x1) o) K))) := rfl
@[instance] theorem g_tree_parser_put_i3_u : UnfAt (drawB C I g_tree_parser_put.a0 g_tree_parser_put.i3 g_tree_parser_put.t16 (St.mk s o) K) g_tree_parser_put_i3_sh := Unf.of _
theorem g_tree_parser_put_i2_sh : drawB C I g_tree_parser_put.a0 (2 :: R_i3) R_t16 (St.mk s o) K =
 ((s 7) = V.undef ∧ (demand (nilcV (s 6)) (fun x1 => quietV o (x1 :: [(s 6)]) ∧
drawB C I g_tree_parser_put.a0 R_i3 R_t16 (St.mk (upd s 7 x1) o) K))) := rfl
@[instance] theorem g_tree_parser_put_i2_u : UnfAt (drawB C I g_tree_parser_put.a0 g_tree_parser_put.i2 g_tree_parser_put.t16 (St.mk s o) K) g_tree_parser_put_i2_sh := Unf.of _
theorem g_tree_parser_put_i1_sh : drawB C I g_tree_parser_put.a0 (1 :: R_i2) R_t16 (St.mk s o) K =
 ((s 6) = V.undef ∧ (quietV o ((s 0) :: [(s 0)]) ∧
drawB C I g_tree_parser_put.a0 R_i2 R_t16 (St.mk (upd s 6 (s 0)) o) K)) := rfl
@[instance] theorem g_tree_parser_put_i1_u : UnfAt (drawB C I g_tree_parser_put.a0 g_tree_parser_put.i1 g_tree_parser_put.t16 (St.mk s o) K) g_tree_parser_put_i1_sh := Unf.of _
theorem g_tree_parser_put_c0_sh : wpB C I (.seq (.region [4] none none
    [⟨some 17, .mv (.t 0), [], [], none, none⟩,
     ⟨some 18, .nilc (.t 17), [], [], none, none⟩,
     ⟨some 19, .faddr 3 (.t 18), [], [], none, none⟩,
     ⟨some 20, .faddr 1 (.t 19), [], [], none, none⟩,
     ⟨some 21, .load none (.t 20), [], [], none, none⟩,
     ⟨some 22, .len (.t 21), [], [], none, none⟩,
     ⟨some 23, .bin .sub (.t 22) (.c (.d (.int .i64 1))), [], [], none, none⟩,
     ⟨some 4, .mv (.t 23), [], [], none, none⟩])
 (.ret)) (St.mk s o) Q =
 (demand (nilcV (s 0)) (fun x1 =>
demand (faddrV 3 x1) (fun x2 =>
demand (faddrV 1 x2) (fun x3 =>
demand (loadV o none x3) (fun x4 =>
demand (lenV o x4) (fun x5 =>
demand (binV BinOp.sub x5 (V.d (.int .i64 1))) (fun x6 =>
Q .ret (St.mk (look [(4, x6)]) o)))))))) := rfl
@[instance] theorem g_tree_parser_put_c0_u : UnfAt (wpB C I g_tree_parser_put.c0 (St.mk s o) Q) g_tree_parser_put_c0_sh := Unf.of _
theorem g_tree_parser_put_code_sh : wpB C I (.seq (.region [0, 3] none none
    [⟨some 3, .box 3 6 (.t 1), [], [], none, none⟩,
     ⟨some 4, .mv (.c (.d (.int .i64 0))), [], [], none, none⟩])
 (.seq (.region [0] none (some (0 :: R_i1, R_t16)) g_tree_parser_put.a0)
  (R_c0))) (St.mk s o) Q =
 (lstK (cellsV (s 1)) (fun c1 => c1.length = 6 ∧ ¬ I 3 ∧ Fresh (St.mk s o) 3 (some 3) ∧ V.refsL 3 c1 = false ∧
V.undef = V.undef ∧ (quietV (upd o 3 (some (Ob.box c1))) ((s 0) :: [(s 0)]) ∧
drawB C I g_tree_parser_put.a0 R_i1 R_t16 (St.mk (upd (look [(0, (s 0)), (3, (V.ptr 3 0))]) 5 (s 0)) (upd o 3 (some (Ob.box c1)))) (fun st => (seqK (fun st => wpB C I R_c0 st Q) Q) .normal (St.trim st [0] none))))) := rfl
@[instance] theorem g_tree_parser_put_code_u : UnfAt (wpB C I g_tree_parser_put.code (St.mk s o) Q) g_tree_parser_put_code_sh := Unf.of _
theorem g_tree_parser_sum_c0_sh : wpB C I (.region [0, 1, 5] none none
   [⟨some 24, .mv (.t 0), [], [], none, none⟩,
    ⟨some 25, .mv (.t 6), [], [], none, none⟩,
    ⟨some 26, .mv (.t 5), [], [], none, none⟩,
    ⟨some 27, .mv (.t 8), [], [], none, none⟩,
    ⟨some 28, .build [.d (.str []), .d (.str []), .d (.int .i64 0), .d (.int .i64 0), .d (.int .i64 0), .d (.int .i64 0)] [(0, 1, (.t 25)), (3, 1, (.t 26)), (4, 1, (.t 27))], [], [], none, none⟩,
    ⟨some 29, .call 222 [(.t 24), (.t 28)], [], [], none, none⟩,
    ⟨some 5, .mv (.t 29), [], [], none, none⟩]) (St.mk s o) Q =
 (demand ((buildN [V.d (.str []), V.d (.str []), V.d (.int .i64 0), V.d (.int .i64 0), V.d (.int .i64 0), V.d (.int .i64 0)] [(0, 1, (s 6)), (3, 1, (s 5)), (4, 1, (s 8))]).map V.agg) (fun x1 =>
callK C I (St.mk (upd (upd (upd (upd (upd s 24 (s 0)) 25 (s 6)) 26 (s 5)) 27 (s 8)) 28 x1) o) (some 29) 222 [(s 0), x1] (fun r2 or2 =>
Q .normal (St.mk (look [(0, (s 0)), (1, (s 1)), (5, r2)]) or2)))) := rfl
@[instance] theorem g_tree_parser_sum_c0_u : UnfAt (wpB C I g_tree_parser_sum.c0 (St.mk s o) Q) g_tree_parser_sum_c0_sh := Unf.of _
theorem g_tree_parser_sum_c1_sh : wpB C I (.seq (.region [0, 1, 5, 6, 8] none none
    [⟨some 21, .mv (.t 0), [], [], none, none⟩,
     ⟨some 22, .mv (.t 1), [], [], none, none⟩,
     ⟨some 23, .call 224 [(.t 21), (.t 22)], [], [], none, none⟩,
     ⟨some 8, .mv (.t 23), [], [], none, none⟩])
 (R_c0)) (St.mk s o) Q =
 (callK C I (St.mk (upd (upd s 21 (s 0)) 22 (s 1)) o) (some 23) 224 [(s 0), (s 1)] (fun r1 or1 =>
wpB C I R_c0 (St.mk (look [(0, (s 0)), (1, (s 1)), (5, (s 5)), (6, (s 6)), (8, r1)]) or1) Q)) := rfl
@[instance] theorem g_tree_parser_sum_c1_u : UnfAt (wpB C I g_tree_parser_sum.c1 (St.mk s o) Q) g_tree_parser_sum_c1_sh := Unf.of _
theorem g_tree_parser_sum_c2_sh : wpB C I (.seq (.seq (.region [0, 1, 5, 6, 19] none none
     [⟨some 18, .mv (.t 7), [], [], none, none⟩,
      ⟨some 19, .un .not (.t 18), [], [], none, none⟩])
  (.cond (.t 19) (.seq (.region [4] none none
       [⟨some 20, .mv (.t 5), [], [], none, none⟩,
        ⟨some 4, .mv (.t 20), [], [], none, none⟩])
    (.ret))
   (.skip)))
 (R_c1)) (St.mk s o) Q =
 (demand (unV UnOp.not (s 7)) (fun x1 =>
condK x1
 (Q .ret (St.mk (look [(4, (s 5))]) o))
 (wpB C I R_c1 (St.mk (look [(0, (s 0)), (1, (s 1)), (5, (s 5)), (6, (s 6)), (19, x1)]) o) Q))) := rfl
@[instance] theorem g_tree_parser_sum_c2_u : UnfAt (wpB C I g_tree_parser_sum.c2 (St.mk s o) Q) g_tree_parser_sum_c2_sh := Unf.of _
theorem g_tree_parser_sum_l0_sh (hL : R_l0 = .loop [0, 1, 5] none (.block 1 [0, 1, 5] none (.seq (.region [0, 1, 5, 6, 7] none none
      [⟨some 13, .mv (.t 0), [], [], none, none⟩,
       ⟨some 14, .bsl none 1 [] 2 [(0, (.c (.d (.str [43])))), (1, (.c (.d (.str [45]))))], [], [], none, none⟩,
       ⟨some 15, .call 219 [(.t 13), (.t 14)], [], [], none, none⟩,
       ⟨some 12, .mv (.t 15), [], [], none, none⟩,
       ⟨some 16, .ext (.t 12) 0, [], [], none, none⟩,
       ⟨some 17, .ext (.t 12) 1, [], [], none, none⟩,
       ⟨some 6, .mv (.t 16), [], [], none, none⟩,
       ⟨some 7, .mv (.t 17), [], [], none, none⟩])
   (R_c2))))
 (h : lstK (partsN 1 [(V.d (.str [43])), (V.d (.str [45]))]) (fun es1 =>
callK C I (St.mk (upd (upd (look [(0, (s 0)), (1, (s 1)), (5, (s 5))]) 13 (s 0)) 14 (V.d (D.sl es1))) o) (some 15) 219 [(s 0), (V.d (D.sl es1))] (fun r2 or2 =>
demand (extV r2 0) (fun x3 =>
demand (extV r2 1) (fun x4 =>
wpB C I R_c2 (St.mk (look [(0, (s 0)), (1, (s 1)), (5, (s 5)), (6, x3), (7, x4)]) or2) (blockK 1 [0, 1, 5] none (seqK (fun s => wpB C I R_l0 s Q) Q))))))) : wpB C I R_l0 (St.mk s o) Q := w_loopC hL h
theorem g_tree_parser_sum_c3_sh : wpB C I (.block 0 [4] none (R_l0)) (St.mk s o) Q =
 (wpB C I R_l0 (St.mk s o) (blockK 0 [4] none Q)) := rfl
@[instance] theorem g_tree_parser_sum_c3_u : UnfAt (wpB C I g_tree_parser_sum.c3 (St.mk s o) Q) g_tree_parser_sum_c3_sh := Unf.of _
theorem g_tree_parser_sum_code_sh : wpB C I (.seq (.region [0, 1] none none
    [⟨some 4, .mv (.c (.d (.int .i64 0))), [], [], none, none⟩])
 (.seq (.region [0, 1, 5] none none
     [⟨some 9, .mv (.t 0), [], [], none, none⟩,
      ⟨some 10, .mv (.t 1), [], [], none, none⟩,
      ⟨some 11, .call 224 [(.t 9), (.t 10)], [], [], none, none⟩,
      ⟨some 5, .mv (.t 11), [], [], none, none⟩])
  (R_c3))) (St.mk s o) Q =
 (callK C I (St.mk (upd (upd (look [(0, (s 0)), (1, (s 1))]) 9 (s 0)) 10 (s 1)) o) (some 11) 224 [(s 0), (s 1)] (fun r1 or1 =>
wpB C I R_c3 (St.mk (look [(0, (s 0)), (1, (s 1)), (5, r1)]) or1) Q)) := rfl
@[instance] theorem g_tree_parser_sum_code_u : UnfAt (wpB C I g_tree_parser_sum.code (St.mk s o) Q) g_tree_parser_sum_code_sh := Unf.of _
theorem g_money_Parse_o1_sh : opsB C I [⟨some 20, .pick (.t 16) (.c (.d (.bool true))) (.t 19), [], [], none, none⟩] (St.mk s o) K =
 (demand (pickV (s 16) (V.d (.bool true)) (s 19)) (fun x1 =>
K (St.mk (upd s 20 x1) o))) := rfl
@[instance] theorem g_money_Parse_o1_u : UnfAt (opsB C I g_money_Parse.o1 (St.mk s o) K) g_money_Parse_o1_sh := Unf.of _
theorem g_money_Parse_o0_sh : opsB C I (⟨some 17, .mv (.t 4), [], [], (some (2, 16, false)), none⟩ ::
     ⟨some 18, .call 58 [(.t 17)], [], [], (some (2, 16, false)), none⟩ ::
     ⟨some 19, .un .not (.t 18), [], [], (some (2, 16, false)), (some ([0, 4, 16, 19], (some [])))⟩ ::
     R_o1) (St.mk s o) K =
 (guardK (s 16) false
 (callK C I (St.mk (upd (upd (upd s 16 (V.d (D.bool false))) 17 (s 4)) 16 (V.d (D.bool false))) o) (some 18) 58 [(s 4)] (fun r1 or1 =>
demand (unV UnOp.not r1) (fun x2 =>
opsB C I R_o1 (St.mk (look [(0, (s 0)), (4, (s 4)), (16, (V.d (D.bool false))), (19, x2)]) (looko ([].map fun n => (n, or1 n)))) K)))
 (opsB C I R_o1 (St.mk (look [(0, (s 0)), (4, (s 4)), (16, (V.d (D.bool true))), (19, (V.tup []))]) (looko ([].map fun n => (n, o n)))) K)
 (opsB C I R_o1 (St.mk (look [(0, (s 0)), (4, (s 4)), (16, (V.tup [])), (19, (V.tup []))]) (looko ([].map fun n => (n, o n)))) K)) := rfl
@[instance] theorem g_money_Parse_o0_u : UnfAt (opsB C I g_money_Parse.o0 (St.mk s o) K) g_money_Parse_o0_sh := Unf.of _
theorem g_money_Parse_c0_sh : wpB C I (.cond (.t 20) (.seq (.region [2, 3] (some []) none
     [⟨some 2, .mv (.c (.d (.int .i64 0))), [], [], none, none⟩,
      ⟨some 3, .mv (.c (.d (.bool false))), [], [], none, none⟩])
  (.ret))
 (.skip)) (St.mk s o) Q =
 (condK (s 20)
 (Q .ret (St.mk (look [(2, (V.d (.int .i64 0))), (3, (V.d (.bool false)))]) (looko ([].map fun n => (n, o n)))))
 (Q .normal (St.mk s o))) := rfl
@[instance] theorem g_money_Parse_c0_u : UnfAt (wpB C I g_money_Parse.c0 (St.mk s o) Q) g_money_Parse_c0_sh := Unf.of _
theorem g_money_Parse_c1_sh : wpB C I (.seq (.region [4, 28] (some []) none
    [⟨some 26, .mv (.t 6), [], [], none, none⟩,
     ⟨some 27, .mv (.t 0), [], [], none, none⟩,
     ⟨some 28, .bin .neq (.t 26) (.t 27), [], [], none, none⟩])
 (.cond (.t 28) (.seq (.region [2, 3] (some []) none
      [⟨some 2, .mv (.c (.d (.int .i64 0))), [], [], none, none⟩,
       ⟨some 3, .mv (.c (.d (.bool false))), [], [], none, none⟩])
   (.ret))
  (.skip))) (St.mk s o) Q =
 (demand (binV BinOp.neq (s 6) (s 0)) (fun x1 =>
condK x1
 (Q .ret (St.mk (look [(2, (V.d (.int .i64 0))), (3, (V.d (.bool false)))]) (looko ([].map fun n => (n, o n)))))
 (Q .normal (St.mk (look [(4, (s 4)), (28, x1)]) (looko ([].map fun n => (n, o n))))))) := rfl
@[instance] theorem g_money_Parse_c1_u : UnfAt (wpB C I g_money_Parse.c1 (St.mk s o) Q) g_money_Parse_c1_sh := Unf.of _
theorem g_money_Parse_c2_sh : wpB C I (.seq (.region [2, 3] (some []) none
    [⟨some 29, .mv (.t 4), [], [], none, none⟩,
     ⟨some 2, .mv (.t 29), [], [], none, none⟩,
     ⟨some 3, .mv (.c (.d (.bool true))), [], [], none, none⟩])
 (.ret)) (St.mk s o) Q =
 (Q .ret (St.mk (look [(2, (s 4)), (3, (V.d (.bool true)))]) (looko ([].map fun n => (n, o n))))) := rfl
@[instance] theorem g_money_Parse_c2_u : UnfAt (wpB C I g_money_Parse.c2 (St.mk s o) Q) g_money_Parse_c2_sh := Unf.of _
theorem g_money_Parse_c3_sh : wpB C I (.seq (.seq (.region [0, 4, 6] (some []) none
     [⟨some 22, .mv (.t 4), [], [], none, none⟩,
      ⟨some 23, .call 50 [(.t 22)], [], [], none, none⟩,
      ⟨some 21, .mv (.t 23), [], [], none, none⟩,
      ⟨some 24, .ext (.t 21) 0, [], [], none, none⟩,
      ⟨some 25, .ext (.t 21) 1, [], [], none, none⟩,
      ⟨some 6, .mv (.t 24), [], [], none, none⟩,
      ⟨some 7, .mv (.t 25), [], [], none, none⟩])
  (R_c1))
 (R_c2)) (St.mk s o) Q =
 (callK C I (St.mk (upd s 22 (s 4)) o) (some 23) 50 [(s 4)] (fun r1 or1 =>
demand (extV r1 0) (fun x2 =>
demand (extV r1 1) (fun x3 =>
wpB C I R_c1 (St.mk (look [(0, (s 0)), (4, (s 4)), (6, x2)]) (looko ([].map fun n => (n, or1 n)))) (seqK (fun st => wpB C I R_c2 st Q) Q))))) := rfl
@[instance] theorem g_money_Parse_c3_u : UnfAt (wpB C I g_money_Parse.c3 (St.mk s o) Q) g_money_Parse_c3_sh := Unf.of _
theorem g_money_Parse_c4_sh : wpB C I (.seq (.seq (.region [0, 4, 20] (some []) none
     (⟨some 14, .mv (.t 5), [], [], none, none⟩ ::
      ⟨some 15, .nilE true (.t 14), [], [], none, none⟩ ::
      ⟨some 16, .mv (.t 15), [], [], none, (some ([0, 4, 16], (some [])))⟩ ::
      R_o0))
  (R_c0))
 (R_c3)) (St.mk s o) Q =
 (demand (nilEV true (s 5)) (fun x1 =>
opsB C I R_o0 (St.mk (look [(0, (s 0)), (4, (s 4)), (16, x1)]) (looko ([].map fun n => (n, o n)))) (fun st => (seqK (fun st => wpB C I R_c0 st (seqK (fun st => wpB C I R_c3 st Q) Q)) (seqK (fun st => wpB C I R_c3 st Q) Q)) .normal (St.trim st [0, 4, 20] (some []))))) := rfl
@[instance] theorem g_money_Parse_c4_u : UnfAt (wpB C I g_money_Parse.c4 (St.mk s o) Q) g_money_Parse_c4_sh := Unf.of _
theorem g_money_Parse_code_sh : wpB C I (.seq (.region [0] (some []) none
    [⟨some 2, .mv (.c (.d (.int .i64 0))), [], [], none, none⟩,
     ⟨some 3, .mv (.c (.d (.bool false))), [], [], none, none⟩])
 (.seq (.region [0, 4, 5] (some []) none
     [⟨some 9, .mv (.t 0), [], [], none, none⟩,
      ⟨some 10, .call 69 [(.t 9), (.c (.d (.str [46]))), (.c (.d (.str []))), (.c (.d (.int .i64 1)))], [], [], none, none⟩,
      ⟨some 11, .call 70 [(.t 10)], [], [], none, none⟩,
      ⟨some 8, .mv (.t 11), [], [], none, none⟩,
      ⟨some 12, .ext (.t 8) 0, [], [], none, none⟩,
      ⟨some 13, .ext (.t 8) 1, [], [], none, none⟩,
      ⟨some 4, .mv (.t 12), [], [], none, none⟩,
      ⟨some 5, .mv (.t 13), [], [], none, none⟩])
  (R_c4))) (St.mk s o) Q =
 (callK C I (St.mk (upd (look [(0, (s 0))]) 9 (s 0)) (looko ([].map fun n => (n, o n)))) (some 10) 69 [(s 0), (V.d (.str [46])), (V.d (.str [])), (V.d (.int .i64 1))] (fun r1 or1 =>
callK C I (St.mk (upd (upd (look [(0, (s 0))]) 9 (s 0)) 10 r1) or1) (some 11) 70 [r1] (fun r2 or2 =>
demand (extV r2 0) (fun x3 =>
demand (extV r2 1) (fun x4 =>
wpB C I R_c4 (St.mk (look [(0, (s 0)), (4, x3), (5, x4)]) (looko ([].map fun n => (n, or2 n)))) Q))))) := rfl
@[instance] theorem g_money_Parse_code_u : UnfAt (wpB C I g_money_Parse.code (St.mk s o) Q) g_money_Parse_code_sh := Unf.of _
theorem g_rate_Parse_o3_sh : opsB C I [⟨some 28, .pick (.t 24) (.c (.d (.bool true))) (.t 27), [], [], none, none⟩] (St.mk s o) K =
 (demand (pickV (s 24) (V.d (.bool true)) (s 27)) (fun x1 =>
K (St.mk (upd s 28 x1) o))) := rfl
@[instance] theorem g_rate_Parse_o3_u : UnfAt (opsB C I g_rate_Parse.o3 (St.mk s o) K) g_rate_Parse_o3_sh := Unf.of _
theorem g_rate_Parse_o2_sh : opsB C I (⟨some 25, .mv (.t 6), [], [], (some (6, 24, false)), none⟩ ::
     ⟨some 26, .call 88 [(.t 25)], [], [], (some (6, 24, false)), none⟩ ::
     ⟨some 27, .un .not (.t 26), [], [], (some (6, 24, false)), (some ([6, 24, 27], (some [])))⟩ ::
     R_o3) (St.mk s o) K =
 (guardK (s 24) false
 (callK C I (St.mk (upd (upd (upd s 24 (V.d (D.bool false))) 25 (s 6)) 24 (V.d (D.bool false))) o) (some 26) 88 [(s 6)] (fun r1 or1 =>
demand (unV UnOp.not r1) (fun x2 =>
opsB C I R_o3 (St.mk (look [(6, (s 6)), (24, (V.d (D.bool false))), (27, x2)]) (looko ([].map fun n => (n, or1 n)))) K)))
 (opsB C I R_o3 (St.mk (look [(6, (s 6)), (24, (V.d (D.bool true))), (27, (V.tup []))]) (looko ([].map fun n => (n, o n)))) K)
 (opsB C I R_o3 (St.mk (look [(6, (s 6)), (24, (V.tup [])), (27, (V.tup []))]) (looko ([].map fun n => (n, o n)))) K)) := rfl
@[instance] theorem g_rate_Parse_o2_u : UnfAt (opsB C I g_rate_Parse.o2 (St.mk s o) K) g_rate_Parse_o2_sh := Unf.of _
theorem g_rate_Parse_o1_sh : opsB C I (⟨some 23, .pick (.t 20) (.c (.d (.bool true))) (.t 22), [], [], none, none⟩ ::
     ⟨some 24, .mv (.t 23), [], [], none, (some ([6, 24], (some [])))⟩ ::
     R_o2) (St.mk s o) K =
 (demand (pickV (s 20) (V.d (.bool true)) (s 22)) (fun x1 =>
opsB C I R_o2 (St.mk (look [(6, (s 6)), (24, x1)]) (looko ([].map fun n => (n, o n)))) K)) := rfl
@[instance] theorem g_rate_Parse_o1_u : UnfAt (opsB C I g_rate_Parse.o1 (St.mk s o) K) g_rate_Parse_o1_sh := Unf.of _
theorem g_rate_Parse_o0_sh : opsB C I (⟨some 21, .mv (.t 7), [], [], (some (2, 20, false)), none⟩ ::
     ⟨some 22, .un .not (.t 21), [], [], (some (2, 20, false)), (some ([6, 20, 22], (some [])))⟩ ::
     R_o1) (St.mk s o) K =
 (guardK (s 20) false
 (demand (unV UnOp.not (s 7)) (fun x1 =>
opsB C I R_o1 (St.mk (look [(6, (s 6)), (20, (V.d (D.bool false))), (22, x1)]) (looko ([].map fun n => (n, o n)))) K))
 (opsB C I R_o1 (St.mk (look [(6, (s 6)), (20, (V.d (D.bool true))), (22, (V.tup []))]) (looko ([].map fun n => (n, o n)))) K)
 (opsB C I R_o1 (St.mk (look [(6, (s 6)), (20, (V.tup [])), (22, (V.tup []))]) (looko ([].map fun n => (n, o n)))) K)) := rfl
@[instance] theorem g_rate_Parse_o0_u : UnfAt (opsB C I g_rate_Parse.o0 (St.mk s o) K) g_rate_Parse_o0_sh := Unf.of _
theorem g_rate_Parse_c0_sh : wpB C I (.cond (.t 28) (.seq (.region [2, 3] (some []) none
     [⟨some 2, .mv (.c (.d (.int .i64 0))), [], [], none, none⟩,
      ⟨some 3, .mv (.c (.d (.bool false))), [], [], none, none⟩])
  (.ret))
 (.skip)) (St.mk s o) Q =
 (condK (s 28)
 (Q .ret (St.mk (look [(2, (V.d (.int .i64 0))), (3, (V.d (.bool false)))]) (looko ([].map fun n => (n, o n)))))
 (Q .normal (St.mk s o))) := rfl
@[instance] theorem g_rate_Parse_c0_u : UnfAt (wpB C I g_rate_Parse.c0 (St.mk s o) Q) g_rate_Parse_c0_sh := Unf.of _
theorem g_rate_Parse_c1_sh : wpB C I (.seq (.region [2, 3] (some []) none
    [⟨some 29, .mv (.t 6), [], [], none, none⟩,
     ⟨some 2, .mv (.t 29), [], [], none, none⟩,
     ⟨some 3, .mv (.c (.d (.bool true))), [], [], none, none⟩])
 (.ret)) (St.mk s o) Q =
 (Q .ret (St.mk (look [(2, (s 6)), (3, (V.d (.bool true)))]) (looko ([].map fun n => (n, o n))))) := rfl
@[instance] theorem g_rate_Parse_c1_u : UnfAt (wpB C I g_rate_Parse.c1 (St.mk s o) Q) g_rate_Parse_c1_sh := Unf.of _
theorem g_rate_Parse_c2_sh : wpB C I (.seq (.seq (.region [6, 28] (some []) none
     (⟨some 18, .mv (.t 5), [], [], none, none⟩ ::
      ⟨some 19, .un .not (.t 18), [], [], none, none⟩ ::
      ⟨some 20, .mv (.t 19), [], [], none, (some ([6, 7, 20], (some [])))⟩ ::
      R_o0))
  (R_c0))
 (R_c1)) (St.mk s o) Q =
 (demand (unV UnOp.not (s 5)) (fun x1 =>
opsB C I R_o0 (St.mk (look [(6, (s 6)), (7, (s 7)), (20, x1)]) (looko ([].map fun n => (n, o n)))) (fun st => (seqK (fun st => wpB C I R_c0 st (seqK (fun st => wpB C I R_c1 st Q) Q)) (seqK (fun st => wpB C I R_c1 st Q) Q)) .normal (St.trim st [6, 28] (some []))))) := rfl
@[instance] theorem g_rate_Parse_c2_u : UnfAt (wpB C I g_rate_Parse.c2 (St.mk s o) Q) g_rate_Parse_c2_sh := Unf.of _
theorem g_rate_Parse_c3_sh : wpB C I (.seq (.region [5, 6, 7] (some []) none
    [⟨some 14, .mv (.t 4), [], [], none, none⟩,
     ⟨some 15, .call 51 [(.t 14)], [], [], none, none⟩,
     ⟨some 13, .mv (.t 15), [], [], none, none⟩,
     ⟨some 16, .ext (.t 13) 0, [], [], none, none⟩,
     ⟨some 17, .ext (.t 13) 1, [], [], none, none⟩,
     ⟨some 6, .mv (.t 16), [], [], none, none⟩,
     ⟨some 7, .mv (.t 17), [], [], none, none⟩])
 (R_c2)) (St.mk s o) Q =
 (callK C I (St.mk (upd s 14 (s 4)) o) (some 15) 51 [(s 4)] (fun r1 or1 =>
demand (extV r1 0) (fun x2 =>
demand (extV r1 1) (fun x3 =>
wpB C I R_c2 (St.mk (look [(5, (s 5)), (6, x2), (7, x3)]) (looko ([].map fun n => (n, or1 n)))) Q)))) := rfl
@[instance] theorem g_rate_Parse_c3_u : UnfAt (wpB C I g_rate_Parse.c3 (St.mk s o) Q) g_rate_Parse_c3_sh := Unf.of _
theorem g_rate_Parse_code_sh : wpB C I (.seq (.region [0] (some []) none
    [⟨some 2, .mv (.c (.d (.int .i64 0))), [], [], none, none⟩,
     ⟨some 3, .mv (.c (.d (.bool false))), [], [], none, none⟩])
 (.seq (.region [4, 5] (some []) none
     [⟨some 9, .mv (.t 0), [], [], none, none⟩,
      ⟨some 10, .call 101 [(.t 9), (.c (.d (.str [37])))], [], [], none, none⟩,
      ⟨some 8, .mv (.t 10), [], [], none, none⟩,
      ⟨some 11, .ext (.t 8) 0, [], [], none, none⟩,
      ⟨some 12, .ext (.t 8) 1, [], [], none, none⟩,
      ⟨some 4, .mv (.t 11), [], [], none, none⟩,
      ⟨some 5, .mv (.t 12), [], [], none, none⟩])
  (R_c3))) (St.mk s o) Q =
 (callK C I (St.mk (upd (look [(0, (s 0))]) 9 (s 0)) (looko ([].map fun n => (n, o n)))) (some 10) 101 [(s 0), (V.d (.str [37]))] (fun r1 or1 =>
demand (extV r1 0) (fun x2 =>
demand (extV r1 1) (fun x3 =>
wpB C I R_c3 (St.mk (look [(4, x2), (5, x3)]) (looko ([].map fun n => (n, or1 n)))) Q)))) := rfl
@[instance] theorem g_rate_Parse_code_u : UnfAt (wpB C I g_rate_Parse.code (St.mk s o) Q) g_rate_Parse_code_sh := Unf.of _
theorem g_strings_HasPrefix_code_sh : wpB C I (.seq (.region [0, 1] (some []) none
    [⟨some 4, .mv (.c (.d (.bool false))), [], [], none, none⟩])
 (.seq (.region [4] (some []) none
     [⟨some 5, .mv (.t 0), [], [], none, none⟩,
      ⟨some 6, .mv (.t 1), [], [], none, none⟩,
      ⟨some 7, .call 131 [(.t 5), (.t 6)], [], [], none, none⟩,
      ⟨some 4, .mv (.t 7), [], [], none, none⟩])
  (.ret))) (St.mk s o) Q =
 (callK C I (St.mk (upd (upd (look [(0, (s 0)), (1, (s 1))]) 5 (s 0)) 6 (s 1)) (looko ([].map fun n => (n, o n)))) (some 7) 131 [(s 0), (s 1)] (fun r1 or1 =>
Q .ret (St.mk (look [(4, r1)]) (looko ([].map fun n => (n, or1 n)))))) := rfl
@[instance] theorem g_strings_HasPrefix_code_u : UnfAt (wpB C I g_strings_HasPrefix.code (St.mk s o) Q) g_strings_HasPrefix_code_sh := Unf.of _
theorem g_tree_parser_product_c0_sh : wpB C I (.seq (.region [0, 1, 5, 19] none none
    [⟨some 18, .mv (.t 7), [], [], none, none⟩,
     ⟨some 19, .un .not (.t 18), [], [], none, none⟩])
 (.cond (.t 19) (.seq (.region [4] none none
      [⟨some 20, .mv (.t 5), [], [], none, none⟩,
       ⟨some 4, .mv (.t 20), [], [], none, none⟩])
   (.ret))
  (.skip))) (St.mk s o) Q =
 (demand (unV UnOp.not (s 7)) (fun x1 =>
condK x1
 (Q .ret (St.mk (look [(4, (s 5))]) o))
 (Q .normal (St.mk (look [(0, (s 0)), (1, (s 1)), (5, (s 5)), (19, x1)]) o)))) := rfl
@[instance] theorem g_tree_parser_product_c0_u : UnfAt (wpB C I g_tree_parser_product.c0 (St.mk s o) Q) g_tree_parser_product_c0_sh := Unf.of _
theorem g_tree_parser_product_c1_sh : wpB C I (.region [0, 1, 5] none none
   [⟨some 24, .mv (.t 0), [], [], none, none⟩,
    ⟨some 25, .mv (.t 5), [], [], none, none⟩,
    ⟨some 26, .mv (.t 8), [], [], none, none⟩,
    ⟨some 27, .build [.d (.str []), .d (.str []), .d (.int .i64 0), .d (.int .i64 0), .d (.int .i64 0), .d (.int .i64 0)] [(0, 1, (.c (.d (.str [42])))), (3, 1, (.t 25)), (4, 1, (.t 26))], [], [], none, none⟩,
    ⟨some 28, .call 222 [(.t 24), (.t 27)], [], [], none, none⟩,
    ⟨some 5, .mv (.t 28), [], [], none, none⟩]) (St.mk s o) Q =
 (demand ((buildN [V.d (.str []), V.d (.str []), V.d (.int .i64 0), V.d (.int .i64 0), V.d (.int .i64 0), V.d (.int .i64 0)] [(0, 1, (V.d (.str [42]))), (3, 1, (s 5)), (4, 1, (s 8))]).map V.agg) (fun x1 =>
callK C I (St.mk (upd (upd (upd (upd s 24 (s 0)) 25 (s 5)) 26 (s 8)) 27 x1) o) (some 28) 222 [(s 0), x1] (fun r2 or2 =>
Q .normal (St.mk (look [(0, (s 0)), (1, (s 1)), (5, r2)]) or2)))) := rfl
@[instance] theorem g_tree_parser_product_c1_u : UnfAt (wpB C I g_tree_parser_product.c1 (St.mk s o) Q) g_tree_parser_product_c1_sh := Unf.of _
theorem g_tree_parser_product_c2_sh : wpB C I (.seq (.region [0, 1, 5, 8] none none
    [⟨some 21, .mv (.t 0), [], [], none, none⟩,
     ⟨some 22, .mv (.t 1), [], [], none, none⟩,
     ⟨some 23, .call 225 [(.t 21), (.t 22)], [], [], none, none⟩,
     ⟨some 8, .mv (.t 23), [], [], none, none⟩])
 (R_c1)) (St.mk s o) Q =
 (callK C I (St.mk (upd (upd s 21 (s 0)) 22 (s 1)) o) (some 23) 225 [(s 0), (s 1)] (fun r1 or1 =>
wpB C I R_c1 (St.mk (look [(0, (s 0)), (1, (s 1)), (5, (s 5)), (8, r1)]) or1) Q)) := rfl
@[instance] theorem g_tree_parser_product_c2_u : UnfAt (wpB C I g_tree_parser_product.c2 (St.mk s o) Q) g_tree_parser_product_c2_sh := Unf.of _
theorem g_tree_parser_product_l0_sh (hL : R_l0 = .loop [0, 1, 5] none (.block 1 [0, 1, 5] none (.seq (.seq (.region [0, 1, 5, 7] none none
       [⟨some 13, .mv (.t 0), [], [], none, none⟩,
        ⟨some 14, .bsl none 1 [] 1 [(0, (.c (.d (.str [42]))))], [], [], none, none⟩,
        ⟨some 15, .call 219 [(.t 13), (.t 14)], [], [], none, none⟩,
        ⟨some 12, .mv (.t 15), [], [], none, none⟩,
        ⟨some 16, .ext (.t 12) 0, [], [], none, none⟩,
        ⟨some 17, .ext (.t 12) 1, [], [], none, none⟩,
        ⟨some 6, .mv (.t 16), [], [], none, none⟩,
        ⟨some 7, .mv (.t 17), [], [], none, none⟩])
    (R_c0))
   (R_c2))))
 (h : lstK (partsN 1 [(V.d (.str [42]))]) (fun es1 =>
callK C I (St.mk (upd (upd (look [(0, (s 0)), (1, (s 1)), (5, (s 5))]) 13 (s 0)) 14 (V.d (D.sl es1))) o) (some 15) 219 [(s 0), (V.d (D.sl es1))] (fun r2 or2 =>
demand (extV r2 0) (fun x3 =>
demand (extV r2 1) (fun x4 =>
wpB C I R_c0 (St.mk (look [(0, (s 0)), (1, (s 1)), (5, (s 5)), (7, x4)]) or2) (seqK (fun st => wpB C I R_c2 st (blockK 1 [0, 1, 5] none (seqK (fun s => wpB C I R_l0 s Q) Q))) (blockK 1 [0, 1, 5] none (seqK (fun s => wpB C I R_l0 s Q) Q)))))))) : wpB C I R_l0 (St.mk s o) Q := w_loopC hL h
theorem g_tree_parser_product_c3_sh : wpB C I (.block 0 [4] none (R_l0)) (St.mk s o) Q =
 (wpB C I R_l0 (St.mk s o) (blockK 0 [4] none Q)) := rfl
@[instance] theorem g_tree_parser_product_c3_u : UnfAt (wpB C I g_tree_parser_product.c3 (St.mk s o) Q) g_tree_parser_product_c3_sh := Unf.of _
theorem g_tree_parser_product_code_sh : wpB C I (.seq (.region [0, 1] none none
    [⟨some 4, .mv (.c (.d (.int .i64 0))), [], [], none, none⟩])
 (.seq (.region [0, 1, 5] none none
     [⟨some 9, .mv (.t 0), [], [], none, none⟩,
      ⟨some 10, .mv (.t 1), [], [], none, none⟩,
      ⟨some 11, .call 225 [(.t 9), (.t 10)], [], [], none, none⟩,
      ⟨some 5, .mv (.t 11), [], [], none, none⟩])
  (R_c3))) (St.mk s o) Q =
 (callK C I (St.mk (upd (upd (look [(0, (s 0)), (1, (s 1))]) 9 (s 0)) 10 (s 1)) o) (some 11) 225 [(s 0), (s 1)] (fun r1 or1 =>
wpB C I R_c3 (St.mk (look [(0, (s 0)), (1, (s 1)), (5, r1)]) or1) Q)) := rfl
@[instance] theorem g_tree_parser_product_code_u : UnfAt (wpB C I g_tree_parser_product.code (St.mk s o) Q) g_tree_parser_product_code_sh := Unf.of _
theorem g_money_Text_c0_sh : wpB C I (.seq (.region [2, 3] (some []) (some ([0, 1, 2, 3, 4, 5, 6, 7, 8, 9, 10], .done))
    [⟨some 17, .mv (.t 4), [], [], none, none⟩,
     ⟨some 18, .mv (.t 0), [], [], none, none⟩,
     ⟨some 19, .bin .quo (.t 18) (.c (.d (.int .i64 100))), [], [1], none, none⟩,
     ⟨some 20, .call 68 [(.t 19)], [], [2], none, none⟩,
     ⟨some 21, .bin .add (.t 17) (.t 20), [], [0, 3], none, none⟩,
     ⟨some 22, .bin .add (.t 21) (.c (.d (.str [46]))), [], [4], none, none⟩,
     ⟨some 23, .mv (.t 5), [], [], none, none⟩,
     ⟨some 24, .slcS (.t 23) (some (.c (.d (.int .i64 1)))) none, [], [6], none, none⟩,
     ⟨some 25, .bin .add (.t 22) (.t 24), [], [5, 7], none, none⟩,
     ⟨some 2, .mv (.t 25), [], [8, 3, 0, 1, 2, 3, 4, 5, 6, 7, 8], none, none⟩,
     ⟨some 3, .mv (.c (.d (.int .i64 0))), [], [9, 0, 1, 2, 3, 4, 5, 6, 7, 8, 9], none, none⟩])
 (.ret)) (St.mk s o) Q =
 ((s 17) = V.undef ∧ (quietV o ((s 4) :: [(s 4)]) ∧
(s 18) = V.undef ∧ (quietV o ((s 0) :: [(s 0)]) ∧
(s 19) = V.undef ∧ (demand (binV BinOp.quo (s 0) (V.d (.int .i64 100))) (fun x3 => quietV o (x3 :: [(s 0), (V.d (.int .i64 100))]) ∧
(s 20) = V.undef ∧ (∃ x4, SoundAt C 68 ⟨[x3], fun _ => none⟩ ⟨x4, fun _ => none⟩ ∧ (∀ n, V.refs n x4 = false) ∧ quietV o (x4 :: [x3]) ∧
(s 21) = V.undef ∧ (demand (binV BinOp.add (s 4) x4) (fun x5 => quietV o (x5 :: [(s 4), x4]) ∧
(s 22) = V.undef ∧ (demand (binV BinOp.add x5 (V.d (.str [46]))) (fun x6 => quietV o (x6 :: [x5, (V.d (.str [46]))]) ∧
(s 23) = V.undef ∧ (quietV o ((s 5) :: [(s 5)]) ∧
(s 24) = V.undef ∧ (demand (slcSV (s 5) (some (V.d (.int .i64 1))) none) (fun x8 => quietV o (x8 :: [(s 5), (V.d (.int .i64 1))]) ∧
(s 25) = V.undef ∧ (demand (binV BinOp.add x6 x8) (fun x9 => quietV o (x9 :: [x6, x8]) ∧
(s 2) = V.undef ∧ (quietV o (x9 :: [x9]) ∧
(s 3) = V.undef ∧ (quietV o ((V.d (.int .i64 0)) :: [(V.d (.int .i64 0))]) ∧
Q .ret (St.mk (look [(2, x9), (3, (V.d (.int .i64 0)))]) (looko ([].map fun n => (n, o n))))))))))))))))))))) := rfl
@[instance] theorem g_money_Text_c0_u : UnfAt (wpB C I g_money_Text.c0 (St.mk s o) Q) g_money_Text_c0_sh := Unf.of _
theorem g_money_Text_c1_sh : wpB C I (.seq (.region [0, 4, 5] (some []) none
    [⟨some 13, .mv (.t 0), [], [], none, none⟩,
     ⟨some 14, .bin .rem (.t 13) (.c (.d (.int .i64 100))), [], [], none, none⟩,
     ⟨some 15, .bin .add (.c (.d (.int .i64 100))) (.t 14), [], [], none, none⟩,
     ⟨some 16, .call 68 [(.t 15)], [], [], none, none⟩,
     ⟨some 5, .mv (.t 16), [], [], none, none⟩])
 (R_c0)) (St.mk s o) Q =
 (demand (binV BinOp.rem (s 0) (V.d (.int .i64 100))) (fun x1 =>
demand (binV BinOp.add (V.d (.int .i64 100)) x1) (fun x2 =>
callK C I (St.mk (upd (upd (upd s 13 (s 0)) 14 x1) 15 x2) o) (some 16) 68 [x2] (fun r3 or3 =>
wpB C I R_c0 (St.mk (look [(0, (s 0)), (4, (s 4)), (5, r3)]) (looko ([].map fun n => (n, or3 n)))) Q)))) := rfl
@[instance] theorem g_money_Text_c1_u : UnfAt (wpB C I g_money_Text.c1 (St.mk s o) Q) g_money_Text_c1_sh := Unf.of _
theorem g_money_Text_c2_sh : wpB C I (.seq (.region [0, 4] (some []) none
    [⟨some 4, .mv (.c (.d (.str []))), [], [], none, none⟩])
 (.seq (.seq (.region [0, 4, 10] (some []) none
      [⟨some 9, .mv (.t 0), [], [], none, none⟩,
       ⟨some 10, .bin .lss (.t 9) (.c (.d (.int .i64 0))), [], [], none, none⟩])
   (.cond (.t 10) (.region [0, 4] (some []) none
       [⟨some 11, .mv (.t 0), [], [], none, none⟩,
        ⟨some 12, .un .neg (.t 11), [], [], none, none⟩,
        ⟨some 4, .mv (.c (.d (.str [45]))), [], [], none, none⟩,
        ⟨some 0, .mv (.t 12), [], [], none, none⟩])
    (.skip)))
  (R_c1))) (St.mk s o) Q =
 (demand (binV BinOp.lss (s 0) (V.d (.int .i64 0))) (fun x1 =>
condK x1
 (demand (unV UnOp.neg (s 0)) (fun x2 =>
wpB C I R_c1 (St.mk (look [(0, x2), (4, (V.d (.str [45])))]) (looko ([].map fun n => (n, o n)))) Q))
 (wpB C I R_c1 (St.mk (look [(0, (s 0)), (4, (V.d (.str []))), (10, x1)]) (looko ([].map fun n => (n, o n)))) Q))) := rfl
@[instance] theorem g_money_Text_c2_u : UnfAt (wpB C I g_money_Text.c2 (St.mk s o) Q) g_money_Text_c2_sh := Unf.of _
theorem g_money_Text_code_sh : wpB C I (.seq (.region [0] (some []) none
    [⟨some 2, .mv (.c (.d (.str []))), [], [], none, none⟩,
     ⟨some 3, .mv (.c (.d (.int .i64 0))), [], [], none, none⟩])
 (.seq (.seq (.region [0, 8] (some []) none
      [⟨some 6, .mv (.t 0), [], [], none, none⟩,
       ⟨some 7, .call 58 [(.t 6)], [], [], none, none⟩,
       ⟨some 8, .un .not (.t 7), [], [], none, none⟩])
   (.cond (.t 8) (.seq (.region [2, 3] (some []) none
        [⟨some 2, .mv (.c (.d (.str []))), [], [], none, none⟩,
         ⟨some 3, .mv (.c (.d (.int .i64 3))), [], [], none, none⟩])
     (.ret))
    (.skip)))
  (R_c2))) (St.mk s o) Q =
 (callK C I (St.mk (upd (look [(0, (s 0))]) 6 (s 0)) (looko ([].map fun n => (n, o n)))) (some 7) 58 [(s 0)] (fun r1 or1 =>
demand (unV UnOp.not r1) (fun x2 =>
condK x2
 (Q .ret (St.mk (look [(2, (V.d (.str []))), (3, (V.d (.int .i64 3)))]) (looko ([].map fun n => (n, or1 n)))))
 (wpB C I R_c2 (St.mk (look [(0, (s 0)), (8, x2)]) (looko ([].map fun n => (n, or1 n)))) Q)))) := rfl
@[instance] theorem g_money_Text_code_u : UnfAt (wpB C I g_money_Text.code (St.mk s o) Q) g_money_Text_code_sh := Unf.of _
theorem g_money_Right_code_sh : wpB C I (.seq (.region [0] (some []) none
    [⟨some 2, .mv (.c (.d (.bool false))), [], [], none, none⟩])
 (.seq (.region [2] (some []) none
     [⟨some 3, .mv (.t 0), [], [], none, none⟩,
      ⟨some 4, .bin .geq (.t 3) (.c (.d (.int .i64 (-9223372036854775807)))), [], [], none, none⟩,
      ⟨some 2, .mv (.t 4), [], [], none, none⟩])
  (.ret))) (St.mk s o) Q =
 (demand (binV BinOp.geq (s 0) (V.d (.int .i64 (-9223372036854775807)))) (fun x1 =>
Q .ret (St.mk (look [(2, x1)]) (looko ([].map fun n => (n, o n)))))) := rfl
@[instance] theorem g_money_Right_code_u : UnfAt (wpB C I g_money_Right.code (St.mk s o) Q) g_money_Right_code_sh := Unf.of _
theorem g_strings_CutSuffix_code_sh : wpB C I (.seq (.region [0, 1] (some []) none
    [⟨some 4, .mv (.c (.d (.str []))), [], [], none, none⟩,
     ⟨some 5, .mv (.c (.d (.bool false))), [], [], none, none⟩])
 (.seq (.region [4, 5] (some []) none
     [⟨some 6, .mv (.t 0), [], [], none, none⟩,
      ⟨some 7, .mv (.t 1), [], [], none, none⟩,
      ⟨some 8, .call 122 [(.t 6), (.t 7)], [], [], none, none⟩,
      ⟨some 9, .ext (.t 8) 0, [], [], none, none⟩,
      ⟨some 10, .ext (.t 8) 1, [], [], none, none⟩,
      ⟨some 4, .mv (.t 9), [], [], none, none⟩,
      ⟨some 5, .mv (.t 10), [], [], none, none⟩])
  (.ret))) (St.mk s o) Q =
 (callK C I (St.mk (upd (upd (look [(0, (s 0)), (1, (s 1))]) 6 (s 0)) 7 (s 1)) (looko ([].map fun n => (n, o n)))) (some 8) 122 [(s 0), (s 1)] (fun r1 or1 =>
demand (extV r1 0) (fun x2 =>
demand (extV r1 1) (fun x3 =>
Q .ret (St.mk (look [(4, x2), (5, x3)]) (looko ([].map fun n => (n, or1 n)))))))) := rfl
@[instance] theorem g_strings_CutSuffix_code_u : UnfAt (wpB C I g_strings_CutSuffix.code (St.mk s o) Q) g_strings_CutSuffix_code_sh := Unf.of _
theorem g_rate_Right_o1_sh : opsB C I [⟨some 8, .pick (.t 5) (.t 7) (.c (.d (.bool false))), [], [], none, none⟩,
     ⟨some 2, .mv (.t 8), [], [], none, none⟩] (St.mk s o) K =
 (demand (pickV (s 5) (s 7) (V.d (.bool false))) (fun x1 =>
K (St.mk (upd (upd s 8 x1) 2 x1) o))) := rfl
@[instance] theorem g_rate_Right_o1_u : UnfAt (opsB C I g_rate_Right.o1 (St.mk s o) K) g_rate_Right_o1_sh := Unf.of _
theorem g_rate_Right_o0_sh : opsB C I (⟨some 6, .mv (.t 0), [], [], (some (2, 5, true)), none⟩ ::
     ⟨some 7, .bin .leq (.t 6) (.c (.d (.int .i64 10000))), [], [], (some (2, 5, true)), (some ([5, 7], (some [])))⟩ ::
     R_o1) (St.mk s o) K =
 (guardK (s 5) true
 (demand (binV BinOp.leq (s 0) (V.d (.int .i64 10000))) (fun x1 =>
opsB C I R_o1 (St.mk (look [(5, (V.d (D.bool true))), (7, x1)]) (looko ([].map fun n => (n, o n)))) K))
 (opsB C I R_o1 (St.mk (look [(5, (V.d (D.bool false))), (7, (V.tup []))]) (looko ([].map fun n => (n, o n)))) K)
 (opsB C I R_o1 (St.mk (look [(5, (V.tup [])), (7, (V.tup []))]) (looko ([].map fun n => (n, o n)))) K)) := rfl
@[instance] theorem g_rate_Right_o0_u : UnfAt (opsB C I g_rate_Right.o0 (St.mk s o) K) g_rate_Right_o0_sh := Unf.of _
theorem g_rate_Right_c0_sh : wpB C I (.ret) (St.mk s o) Q =
 (Q .ret (St.mk s o)) := rfl
@[instance] theorem g_rate_Right_c0_u : UnfAt (wpB C I g_rate_Right.c0 (St.mk s o) Q) g_rate_Right_c0_sh := Unf.of _
theorem g_rate_Right_code_sh : wpB C I (.seq (.region [0] (some []) none
    [⟨some 2, .mv (.c (.d (.bool false))), [], [], none, none⟩])
 (.seq (.region [2] (some []) none
     (⟨some 3, .mv (.t 0), [], [], none, none⟩ ::
      ⟨some 4, .bin .geq (.t 3) (.c (.d (.int .i64 0))), [], [], none, none⟩ ::
      ⟨some 5, .mv (.t 4), [], [], none, (some ([0, 5], (some [])))⟩ ::
      R_o0))
  (R_c0))) (St.mk s o) Q =
 (demand (binV BinOp.geq (s 0) (V.d (.int .i64 0))) (fun x1 =>
opsB C I R_o0 (St.mk (look [(0, (s 0)), (5, x1)]) (looko ([].map fun n => (n, o n)))) (fun st => (seqK (fun st => wpB C I R_c0 st Q) Q) .normal (St.trim st [2] (some []))))) := rfl
@[instance] theorem g_rate_Right_code_u : UnfAt (wpB C I g_rate_Right.code (St.mk s o) Q) g_rate_Right_code_sh := Unf.of _
theorem g_internal_stringslite_HasPrefix_o1_sh : opsB C I [⟨some 17, .pick (.t 10) (.t 16) (.c (.d (.bool false))), [], [], none, none⟩,
     ⟨some 4, .mv (.t 17), [], [], none, none⟩] (St.mk s o) K =
 (demand (pickV (s 10) (s 16) (V.d (.bool false))) (fun x1 =>
K (St.mk (upd (upd s 17 x1) 4 x1) o))) := rfl
@[instance] theorem g_internal_stringslite_HasPrefix_o1_u : UnfAt (opsB C I g_internal_stringslite_HasPrefix.o1 (St.mk s o) K) g_internal_stringslite_HasPrefix_o1_sh := Unf.of _
theorem g_internal_stringslite_HasPrefix_o0_sh : opsB C I (⟨some 11, .mv (.t 0), [], [], (some (5, 10, true)), none⟩ ::
     ⟨some 12, .mv (.t 1), [], [], (some (5, 10, true)), none⟩ ::
     ⟨some 13, .lenS (.t 12), [], [], (some (5, 10, true)), none⟩ ::
     ⟨some 14, .slcS (.t 11) none (some (.t 13)), [], [], (some (5, 10, true)), none⟩ ::
     ⟨some 15, .mv (.t 1), [], [], (some (5, 10, true)), none⟩ ::
     ⟨some 16, .bin .eql (.t 14) (.t 15), [], [], (some (5, 10, true)), (some ([10, 16], (some [])))⟩ ::
     R_o1) (St.mk s o) K =
 (guardK (s 10) true
 (demand (lenSV (s 1)) (fun x1 =>
demand (slcSV (s 0) none (some x1)) (fun x2 =>
demand (binV BinOp.eql x2 (s 1)) (fun x3 =>
opsB C I R_o1 (St.mk (look [(10, (V.d (D.bool true))), (16, x3)]) (looko ([].map fun n => (n, o n)))) K))))
 (opsB C I R_o1 (St.mk (look [(10, (V.d (D.bool false))), (16, (V.tup []))]) (looko ([].map fun n => (n, o n)))) K)
 (opsB C I R_o1 (St.mk (look [(10, (V.tup [])), (16, (V.tup []))]) (looko ([].map fun n => (n, o n)))) K)) := rfl
@[instance] theorem g_internal_stringslite_HasPrefix_o0_u : UnfAt (opsB C I g_internal_stringslite_HasPrefix.o0 (St.mk s o) K) g_internal_stringslite_HasPrefix_o0_sh := Unf.of _
theorem g_internal_stringslite_HasPrefix_c0_sh : wpB C I (.ret) (St.mk s o) Q =
 (Q .ret (St.mk s o)) := rfl
@[instance] theorem g_internal_stringslite_HasPrefix_c0_u : UnfAt (wpB C I g_internal_stringslite_HasPrefix.c0 (St.mk s o) Q) g_internal_stringslite_HasPrefix_c0_sh := Unf.of _
theorem g_internal_stringslite_HasPrefix_code_sh : wpB C I (.seq (.region [0, 1] (some []) none
    [⟨some 4, .mv (.c (.d (.bool false))), [], [], none, none⟩])
 (.seq (.region [4] (some []) none
     (⟨some 5, .mv (.t 0), [], [], none, none⟩ ::
      ⟨some 6, .lenS (.t 5), [], [], none, none⟩ ::
      ⟨some 7, .mv (.t 1), [], [], none, none⟩ ::
      ⟨some 8, .lenS (.t 7), [], [], none, none⟩ ::
      ⟨some 9, .bin .geq (.t 6) (.t 8), [], [], none, none⟩ ::
      ⟨some 10, .mv (.t 9), [], [], none, (some ([0, 1, 10], (some [])))⟩ ::
      R_o0))
  (R_c0))) (St.mk s o) Q =
 (demand (lenSV (s 0)) (fun x1 =>
demand (lenSV (s 1)) (fun x2 =>
demand (binV BinOp.geq x1 x2) (fun x3 =>
opsB C I R_o0 (St.mk (look [(0, (s 0)), (1, (s 1)), (10, x3)]) (looko ([].map fun n => (n, o n)))) (fun st => (seqK (fun st => wpB C I R_c0 st Q) Q) .normal (St.trim st [4] (some []))))))) := rfl
@[instance] theorem g_internal_stringslite_HasPrefix_code_u : UnfAt (wpB C I g_internal_stringslite_HasPrefix.code (St.mk s o) Q) g_internal_stringslite_HasPrefix_code_sh := Unf.of _
theorem g_tree_parser_factor_c0_sh : wpB C I (.seq (.region [0, 1, 27] none none
    [⟨some 27, .mv (.t 6), [], [], none, none⟩])
 (.cond (.t 27) (.seq (.region [4] none none
      [⟨some 28, .mv (.t 0), [], [], none, none⟩,
       ⟨some 29, .mv (.t 0), [], [], none, none⟩,
       ⟨some 30, .mv (.t 1), [], [], none, none⟩,
       ⟨some 31, .bin .add (.t 30) (.c (.d (.int .i64 1))), [], [], none, none⟩,
       ⟨some 32, .call 225 [(.t 29), (.t 31)], [], [], none, none⟩,
       ⟨some 33, .build [.d (.str []), .d (.str []), .d (.int .i64 0), .d (.int .i64 0), .d (.int .i64 0), .d (.int .i64 0)] [(0, 1, (.c (.d (.str [110, 101, 103])))), (3, 1, (.t 32))], [], [], none, none⟩,
       ⟨some 34, .call 222 [(.t 28), (.t 33)], [], [], none, none⟩,
       ⟨some 4, .mv (.t 34), [], [], none, none⟩])
   (.ret))
  (.skip))) (St.mk s o) Q =
 (condK (s 6)
 (demand (binV BinOp.add (s 1) (V.d (.int .i64 1))) (fun x1 =>
callK C I (St.mk (upd (upd (upd (upd (look [(0, (s 0)), (1, (s 1)), (27, (s 6))]) 28 (s 0)) 29 (s 0)) 30 (s 1)) 31 x1) o) (some 32) 225 [(s 0), x1] (fun r2 or2 =>
demand ((buildN [V.d (.str []), V.d (.str []), V.d (.int .i64 0), V.d (.int .i64 0), V.d (.int .i64 0), V.d (.int .i64 0)] [(0, 1, (V.d (.str [110, 101, 103]))), (3, 1, r2)]).map V.agg) (fun x3 =>
callK C I (St.mk (upd (upd (upd (upd (upd (upd (look [(0, (s 0)), (1, (s 1)), (27, (s 6))]) 28 (s 0)) 29 (s 0)) 30 (s 1)) 31 x1) 32 r2) 33 x3) or2) (some 34) 222 [(s 0), x3] (fun r4 or4 =>
Q .ret (St.mk (look [(4, r4)]) or4))))))
 (Q .normal (St.mk (look [(0, (s 0)), (1, (s 1)), (27, (s 6))]) o))) := rfl
@[instance] theorem g_tree_parser_factor_c0_u : UnfAt (wpB C I g_tree_parser_factor.c0 (St.mk s o) Q) g_tree_parser_factor_c0_sh := Unf.of _
theorem g_tree_parser_factor_c1_sh : wpB C I (.seq (.region [0, 1, 7, 41] none none
    [⟨some 41, .mv (.t 8), [], [], none, none⟩])
 (.cond (.t 41) (.seq (.region [4] none none
      [⟨some 42, .mv (.t 0), [], [], none, none⟩,
       ⟨some 43, .mv (.t 7), [], [], none, none⟩,
       ⟨some 44, .mv (.t 1), [], [], none, none⟩,
       ⟨some 45, .call 226 [(.t 42), (.t 43), (.t 44)], [], [], none, none⟩,
       ⟨some 4, .mv (.t 45), [], [], none, none⟩])
   (.ret))
  (.skip))) (St.mk s o) Q =
 (condK (s 8)
 (callK C I (St.mk (upd (upd (upd (look [(0, (s 0)), (1, (s 1)), (7, (s 7)), (41, (s 8))]) 42 (s 0)) 43 (s 7)) 44 (s 1)) o) (some 45) 226 [(s 0), (s 7), (s 1)] (fun r1 or1 =>
Q .ret (St.mk (look [(4, r1)]) or1)))
 (Q .normal (St.mk (look [(0, (s 0)), (1, (s 1)), (7, (s 7)), (41, (s 8))]) o))) := rfl
@[instance] theorem g_tree_parser_factor_c1_u : UnfAt (wpB C I g_tree_parser_factor.c1 (St.mk s o) Q) g_tree_parser_factor_c1_sh := Unf.of _
theorem g_tree_parser_factor_c2_sh : wpB C I (.seq (.region [11] none none
    [⟨some 57, .mv (.t 0), [], [], none, none⟩,
     ⟨some 58, .call 220 [(.t 57), (.c (.d (.str [41])))], [], [], none, none⟩])
 (.seq (.region [4] none none
     [⟨some 59, .mv (.t 11), [], [], none, none⟩,
      ⟨some 4, .mv (.t 59), [], [], none, none⟩])
  (.ret))) (St.mk s o) Q =
 (callK C I (St.mk (upd s 57 (s 0)) o) (some 58) 220 [(s 0), (V.d (.str [41]))] (fun r1 or1 =>
Q .ret (St.mk (look [(4, (s 11))]) or1))) := rfl
@[instance] theorem g_tree_parser_factor_c2_u : UnfAt (wpB C I g_tree_parser_factor.c2 (St.mk s o) Q) g_tree_parser_factor_c2_sh := Unf.of _
theorem g_tree_parser_factor_c3_sh : wpB C I (.seq (.region [0, 1, 52] none none
    [⟨some 52, .mv (.t 10), [], [], none, none⟩])
 (.cond (.t 52) (.seq (.region [0, 11] none none
      [⟨some 53, .mv (.t 0), [], [], none, none⟩,
       ⟨some 54, .mv (.t 1), [], [], none, none⟩,
       ⟨some 55, .bin .add (.t 54) (.c (.d (.int .i64 1))), [], [], none, none⟩,
       ⟨some 56, .call 221 [(.t 53), (.t 55)], [], [], none, none⟩,
       ⟨some 11, .mv (.t 56), [], [], none, none⟩])
   (R_c2))
  (.skip))) (St.mk s o) Q =
 (condK (s 10)
 (demand (binV BinOp.add (s 1) (V.d (.int .i64 1))) (fun x1 =>
callK C I (St.mk (upd (upd (upd (look [(0, (s 0)), (1, (s 1)), (52, (s 10))]) 53 (s 0)) 54 (s 1)) 55 x1) o) (some 56) 221 [(s 0), x1] (fun r2 or2 =>
wpB C I R_c2 (St.mk (look [(0, (s 0)), (11, r2)]) or2) Q)))
 (Q .normal (St.mk (look [(0, (s 0)), (1, (s 1)), (52, (s 10))]) o))) := rfl
@[instance] theorem g_tree_parser_factor_c3_u : UnfAt (wpB C I g_tree_parser_factor.c3 (St.mk s o) Q) g_tree_parser_factor_c3_sh := Unf.of _
theorem g_tree_parser_factor_c4_sh : wpB C I (.seq (.region [4] none none
    [⟨some 60, .mv (.t 0), [], [], none, none⟩,
     ⟨some 61, .call 227 [(.t 60)], [], [], none, none⟩,
     ⟨some 4, .mv (.t 61), [], [], none, none⟩])
 (.ret)) (St.mk s o) Q =
 (callK C I (St.mk (upd s 60 (s 0)) o) (some 61) 227 [(s 0)] (fun r1 or1 =>
Q .ret (St.mk (look [(4, r1)]) or1))) := rfl
@[instance] theorem g_tree_parser_factor_c4_u : UnfAt (wpB C I g_tree_parser_factor.c4 (St.mk s o) Q) g_tree_parser_factor_c4_sh := Unf.of _
theorem g_tree_parser_factor_c5_sh : wpB C I (.seq (.seq (.region [0, 1, 10] none none
     [⟨some 47, .mv (.t 0), [], [], none, none⟩,
      ⟨some 48, .bsl none 1 [] 1 [(0, (.c (.d (.str [40]))))], [], [], none, none⟩,
      ⟨some 49, .call 219 [(.t 47), (.t 48)], [], [], none, none⟩,
      ⟨some 46, .mv (.t 49), [], [], none, none⟩,
      ⟨some 50, .ext (.t 46) 0, [], [], none, none⟩,
      ⟨some 51, .ext (.t 46) 1, [], [], none, none⟩,
      ⟨some 9, .mv (.t 50), [], [], none, none⟩,
      ⟨some 10, .mv (.t 51), [], [], none, none⟩])
  (R_c3))
 (R_c4)) (St.mk s o) Q =
 (lstK (partsN 1 [(V.d (.str [40]))]) (fun es1 =>
callK C I (St.mk (upd (upd s 47 (s 0)) 48 (V.d (D.sl es1))) o) (some 49) 219 [(s 0), (V.d (D.sl es1))] (fun r2 or2 =>
demand (extV r2 0) (fun x3 =>
demand (extV r2 1) (fun x4 =>
wpB C I R_c3 (St.mk (look [(0, (s 0)), (1, (s 1)), (10, x4)]) or2) (seqK (fun st => wpB C I R_c4 st Q) Q)))))) := rfl
@[instance] theorem g_tree_parser_factor_c5_u : UnfAt (wpB C I g_tree_parser_factor.c5 (St.mk s o) Q) g_tree_parser_factor_c5_sh := Unf.of _
theorem g_tree_parser_factor_c6_sh : wpB C I (.seq (.seq (.region [0, 1, 7, 8] none none
     [⟨some 36, .mv (.t 0), [], [], none, none⟩,
      ⟨some 37, .bsl none 1 [] 2 [(0, (.c (.d (.str [109, 105, 110])))), (1, (.c (.d (.str [109, 97, 120]))))], [], [], none, none⟩,
      ⟨some 38, .call 219 [(.t 36), (.t 37)], [], [], none, none⟩,
      ⟨some 35, .mv (.t 38), [], [], none, none⟩,
      ⟨some 39, .ext (.t 35) 0, [], [], none, none⟩,
      ⟨some 40, .ext (.t 35) 1, [], [], none, none⟩,
      ⟨some 7, .mv (.t 39), [], [], none, none⟩,
      ⟨some 8, .mv (.t 40), [], [], none, none⟩])
  (R_c1))
 (R_c5)) (St.mk s o) Q =
 (lstK (partsN 1 [(V.d (.str [109, 105, 110])), (V.d (.str [109, 97, 120]))]) (fun es1 =>
callK C I (St.mk (upd (upd s 36 (s 0)) 37 (V.d (D.sl es1))) o) (some 38) 219 [(s 0), (V.d (D.sl es1))] (fun r2 or2 =>
demand (extV r2 0) (fun x3 =>
demand (extV r2 1) (fun x4 =>
wpB C I R_c1 (St.mk (look [(0, (s 0)), (1, (s 1)), (7, x3), (8, x4)]) or2) (seqK (fun st => wpB C I R_c5 st Q) Q)))))) := rfl
@[instance] theorem g_tree_parser_factor_c6_u : UnfAt (wpB C I g_tree_parser_factor.c6 (St.mk s o) Q) g_tree_parser_factor_c6_sh := Unf.of _
theorem g_tree_parser_factor_c7_sh : wpB C I (.seq (.seq (.region [0, 1, 6] none none
     [⟨some 22, .mv (.t 0), [], [], none, none⟩,
      ⟨some 23, .bsl none 1 [] 1 [(0, (.c (.d (.str [45]))))], [], [], none, none⟩,
      ⟨some 24, .call 219 [(.t 22), (.t 23)], [], [], none, none⟩,
      ⟨some 21, .mv (.t 24), [], [], none, none⟩,
      ⟨some 25, .ext (.t 21) 0, [], [], none, none⟩,
      ⟨some 26, .ext (.t 21) 1, [], [], none, none⟩,
      ⟨some 5, .mv (.t 25), [], [], none, none⟩,
      ⟨some 6, .mv (.t 26), [], [], none, none⟩])
  (R_c0))
 (R_c6)) (St.mk s o) Q =
 (lstK (partsN 1 [(V.d (.str [45]))]) (fun es1 =>
callK C I (St.mk (upd (upd s 22 (s 0)) 23 (V.d (D.sl es1))) o) (some 24) 219 [(s 0), (V.d (D.sl es1))] (fun r2 or2 =>
demand (extV r2 0) (fun x3 =>
demand (extV r2 1) (fun x4 =>
wpB C I R_c0 (St.mk (look [(0, (s 0)), (1, (s 1)), (6, x4)]) or2) (seqK (fun st => wpB C I R_c6 st Q) Q)))))) := rfl
@[instance] theorem g_tree_parser_factor_c7_u : UnfAt (wpB C I g_tree_parser_factor.c7 (St.mk s o) Q) g_tree_parser_factor_c7_sh := Unf.of _
theorem g_tree_parser_factor_c8_sh : wpB C I (.seq (.seq (.region [0, 1, 20] none none
     [⟨some 16, .mv (.t 0), [], [], none, none⟩,
      ⟨some 17, .nilc (.t 16), [], [], none, none⟩,
      ⟨some 18, .faddr 5 (.t 17), [], [], none, none⟩,
      ⟨some 19, .load none (.t 18), [], [], none, none⟩,
      ⟨some 20, .bin .neq (.t 19) (.c (.d (.int .i64 0))), [], [], none, none⟩])
  (.cond (.t 20) (.seq (.region [4] none none
       [⟨some 4, .mv (.c (.d (.int .i64 0))), [], [], none, none⟩])
    (.ret))
   (.skip)))
 (R_c7)) (St.mk s o) Q =
 (demand (nilcV (s 0)) (fun x1 =>
demand (faddrV 5 x1) (fun x2 =>
demand (loadV o none x2) (fun x3 =>
demand (binV BinOp.neq x3 (V.d (.int .i64 0))) (fun x4 =>
condK x4
 (Q .ret (St.mk (look [(4, (V.d (.int .i64 0)))]) o))
 (wpB C I R_c7 (St.mk (look [(0, (s 0)), (1, (s 1)), (20, x4)]) o) Q)))))) := rfl
@[instance] theorem g_tree_parser_factor_c8_u : UnfAt (wpB C I g_tree_parser_factor.c8 (St.mk s o) Q) g_tree_parser_factor_c8_sh := Unf.of _
theorem g_tree_parser_factor_code_sh : wpB C I (.seq (.region [0, 1] none none
    [⟨some 4, .mv (.c (.d (.int .i64 0))), [], [], none, none⟩])
 (.seq (.seq (.region [0, 1, 13] none none
      [⟨some 12, .mv (.t 1), [], [], none, none⟩,
       ⟨some 13, .bin .gtr (.t 12) (.c (.d (.int .i64 20))), [], [], none, none⟩])
   (.cond (.t 13) (.region [0, 1] none none
       [⟨some 14, .mv (.t 0), [], [], none, none⟩,
        ⟨some 15, .call 218 [(.t 14), (.c (.d (.int .i64 9)))], [], [], none, none⟩])
    (.skip)))
  (R_c8))) (St.mk s o) Q =
 (demand (binV BinOp.gtr (s 1) (V.d (.int .i64 20))) (fun x1 =>
condK x1
 (callK C I (St.mk (upd (look [(0, (s 0)), (1, (s 1)), (13, x1)]) 14 (s 0)) o) (some 15) 218 [(s 0), (V.d (.int .i64 9))] (fun r2 or2 =>
wpB C I R_c8 (St.mk (look [(0, (s 0)), (1, (s 1))]) or2) Q))
 (wpB C I R_c8 (St.mk (look [(0, (s 0)), (1, (s 1)), (13, x1)]) o) Q))) := rfl
@[instance] theorem g_tree_parser_factor_code_u : UnfAt (wpB C I g_tree_parser_factor.code (St.mk s o) Q) g_tree_parser_factor_code_sh := Unf.of _
theorem g_internal_stringslite_CutSuffix_c0_sh : wpB C I (.seq (.region [4, 5] (some []) none
    [⟨some 11, .mv (.t 0), [], [], none, none⟩,
     ⟨some 12, .mv (.t 0), [], [], none, none⟩,
     ⟨some 13, .lenS (.t 12), [], [], none, none⟩,
     ⟨some 14, .mv (.t 1), [], [], none, none⟩,
     ⟨some 15, .lenS (.t 14), [], [], none, none⟩,
     ⟨some 16, .bin .sub (.t 13) (.t 15), [], [], none, none⟩,
     ⟨some 17, .slcS (.t 11) none (some (.t 16)), [], [], none, none⟩,
     ⟨some 4, .mv (.t 17), [], [], none, none⟩,
     ⟨some 5, .mv (.c (.d (.bool true))), [], [], none, none⟩])
 (.ret)) (St.mk s o) Q =
 (demand (lenSV (s 0)) (fun x1 =>
demand (lenSV (s 1)) (fun x2 =>
demand (binV BinOp.sub x1 x2) (fun x3 =>
demand (slcSV (s 0) none (some x3)) (fun x4 =>
Q .ret (St.mk (look [(4, x4), (5, (V.d (.bool true)))]) (looko ([].map fun n => (n, o n))))))))) := rfl
@[instance] theorem g_internal_stringslite_CutSuffix_c0_u : UnfAt (wpB C I g_internal_stringslite_CutSuffix.c0 (St.mk s o) Q) g_internal_stringslite_CutSuffix_c0_sh := Unf.of _
theorem g_internal_stringslite_CutSuffix_code_sh : wpB C I (.seq (.region [0, 1] (some []) none
    [⟨some 4, .mv (.c (.d (.str []))), [], [], none, none⟩,
     ⟨some 5, .mv (.c (.d (.bool false))), [], [], none, none⟩])
 (.seq (.seq (.region [0, 1, 9] (some []) none
      [⟨some 6, .mv (.t 0), [], [], none, none⟩,
       ⟨some 7, .mv (.t 1), [], [], none, none⟩,
       ⟨some 8, .call 141 [(.t 6), (.t 7)], [], [], none, none⟩,
       ⟨some 9, .un .not (.t 8), [], [], none, none⟩])
   (.cond (.t 9) (.seq (.region [4, 5] (some []) none
        [⟨some 10, .mv (.t 0), [], [], none, none⟩,
         ⟨some 4, .mv (.t 10), [], [], none, none⟩,
         ⟨some 5, .mv (.c (.d (.bool false))), [], [], none, none⟩])
     (.ret))
    (.skip)))
  (R_c0))) (St.mk s o) Q =
 (callK C I (St.mk (upd (upd (look [(0, (s 0)), (1, (s 1))]) 6 (s 0)) 7 (s 1)) (looko ([].map fun n => (n, o n)))) (some 8) 141 [(s 0), (s 1)] (fun r1 or1 =>
demand (unV UnOp.not r1) (fun x2 =>
condK x2
 (Q .ret (St.mk (look [(4, (s 0)), (5, (V.d (.bool false)))]) (looko ([].map fun n => (n, or1 n)))))
 (wpB C I R_c0 (St.mk (look [(0, (s 0)), (1, (s 1)), (9, x2)]) (looko ([].map fun n => (n, or1 n)))) Q)))) := rfl
@[instance] theorem g_internal_stringslite_CutSuffix_code_u : UnfAt (wpB C I g_internal_stringslite_CutSuffix.code (St.mk s o) Q) g_internal_stringslite_CutSuffix_code_sh := Unf.of _
theorem g_tree_parser_pair_c0_sh : wpB C I (.seq (.region [0, 1, 7, 8] none none
    [⟨some 21, .mv (.t 0), [], [], none, none⟩,
     ⟨some 22, .call 220 [(.t 21), (.c (.d (.str [41])))], [], [], none, none⟩])
 (.seq (.region [6] none none
     [⟨some 23, .mv (.t 0), [], [], none, none⟩,
      ⟨some 24, .mv (.t 1), [], [], none, none⟩,
      ⟨some 25, .mv (.t 7), [], [], none, none⟩,
      ⟨some 26, .mv (.t 8), [], [], none, none⟩,
      ⟨some 27, .build [.d (.str []), .d (.str []), .d (.int .i64 0), .d (.int .i64 0), .d (.int .i64 0), .d (.int .i64 0)] [(0, 1, (.t 24)), (3, 1, (.t 25)), (4, 1, (.t 26))], [], [], none, none⟩,
      ⟨some 28, .call 222 [(.t 23), (.t 27)], [], [], none, none⟩,
      ⟨some 6, .mv (.t 28), [], [], none, none⟩])
  (.ret))) (St.mk s o) Q =
 (callK C I (St.mk (upd s 21 (s 0)) o) (some 22) 220 [(s 0), (V.d (.str [41]))] (fun r1 or1 =>
demand ((buildN [V.d (.str []), V.d (.str []), V.d (.int .i64 0), V.d (.int .i64 0), V.d (.int .i64 0), V.d (.int .i64 0)] [(0, 1, (s 1)), (3, 1, (s 7)), (4, 1, (s 8))]).map V.agg) (fun x2 =>
callK C I (St.mk (upd (upd (upd (upd (upd (look [(0, (s 0)), (1, (s 1)), (7, (s 7)), (8, (s 8))]) 23 (s 0)) 24 (s 1)) 25 (s 7)) 26 (s 8)) 27 x2) or1) (some 28) 222 [(s 0), x2] (fun r3 or3 =>
Q .ret (St.mk (look [(6, r3)]) or3))))) := rfl
@[instance] theorem g_tree_parser_pair_c0_u : UnfAt (wpB C I g_tree_parser_pair.c0 (St.mk s o) Q) g_tree_parser_pair_c0_sh := Unf.of _
theorem g_tree_parser_pair_c1_sh : wpB C I (.seq (.region [0, 1, 2, 7] none none
    [⟨some 15, .mv (.t 0), [], [], none, none⟩,
     ⟨some 16, .call 220 [(.t 15), (.c (.d (.str [44])))], [], [], none, none⟩])
 (.seq (.region [0, 1, 7, 8] none none
     [⟨some 17, .mv (.t 0), [], [], none, none⟩,
      ⟨some 18, .mv (.t 2), [], [], none, none⟩,
      ⟨some 19, .bin .add (.t 18) (.c (.d (.int .i64 1))), [], [], none, none⟩,
      ⟨some 20, .call 221 [(.t 17), (.t 19)], [], [], none, none⟩,
      ⟨some 8, .mv (.t 20), [], [], none, none⟩])
  (R_c0))) (St.mk s o) Q =
 (callK C I (St.mk (upd s 15 (s 0)) o) (some 16) 220 [(s 0), (V.d (.str [44]))] (fun r1 or1 =>
demand (binV BinOp.add (s 2) (V.d (.int .i64 1))) (fun x2 =>
callK C I (St.mk (upd (upd (upd (look [(0, (s 0)), (1, (s 1)), (2, (s 2)), (7, (s 7))]) 17 (s 0)) 18 (s 2)) 19 x2) or1) (some 20) 221 [(s 0), x2] (fun r3 or3 =>
wpB C I R_c0 (St.mk (look [(0, (s 0)), (1, (s 1)), (7, (s 7)), (8, r3)]) or3) Q)))) := rfl
@[instance] theorem g_tree_parser_pair_c1_u : UnfAt (wpB C I g_tree_parser_pair.c1 (St.mk s o) Q) g_tree_parser_pair_c1_sh := Unf.of _
theorem g_tree_parser_pair_code_sh : wpB C I (.seq (.region [0, 1, 2] none none
    [⟨some 6, .mv (.c (.d (.int .i64 0))), [], [], none, none⟩])
 (.seq (.region [0, 1, 2] none none
     [⟨some 9, .mv (.t 0), [], [], none, none⟩,
      ⟨some 10, .call 220 [(.t 9), (.c (.d (.str [40])))], [], [], none, none⟩])
  (.seq (.region [0, 1, 2, 7] none none
      [⟨some 11, .mv (.t 0), [], [], none, none⟩,
       ⟨some 12, .mv (.t 2), [], [], none, none⟩,
       ⟨some 13, .bin .add (.t 12) (.c (.d (.int .i64 1))), [], [], none, none⟩,
       ⟨some 14, .call 221 [(.t 11), (.t 13)], [], [], none, none⟩,
       ⟨some 7, .mv (.t 14), [], [], none, none⟩])
   (R_c1)))) (St.mk s o) Q =
 (callK C I (St.mk (upd (look [(0, (s 0)), (1, (s 1)), (2, (s 2))]) 9 (s 0)) o) (some 10) 220 [(s 0), (V.d (.str [40]))] (fun r1 or1 =>
demand (binV BinOp.add (s 2) (V.d (.int .i64 1))) (fun x2 =>
callK C I (St.mk (upd (upd (upd (look [(0, (s 0)), (1, (s 1)), (2, (s 2))]) 11 (s 0)) 12 (s 2)) 13 x2) or1) (some 14) 221 [(s 0), x2] (fun r3 or3 =>
wpB C I R_c1 (St.mk (look [(0, (s 0)), (1, (s 1)), (2, (s 2)), (7, r3)]) or3) Q)))) := rfl
@[instance] theorem g_tree_parser_pair_code_u : UnfAt (wpB C I g_tree_parser_pair.code (St.mk s o) Q) g_tree_parser_pair_code_sh := Unf.of _
theorem g_tree_parser_leaf_c0_sh : wpB C I (.region [0, 3, 4] none none
   [⟨some 24, .mv (.t 5), [], [], none, none⟩,
    ⟨some 25, .build [.d (.str []), .d (.str []), .d (.int .i64 0), .d (.int .i64 0), .d (.int .i64 0), .d (.int .i64 0)] [(0, 1, (.c (.d (.str [119, 104, 111, 108, 101])))), (2, 1, (.t 24))], [], [], none, none⟩,
    ⟨none, .store 6 (.t 4) (.t 25), [], [], none, none⟩]) (St.mk s o) Q =
 (demand ((buildN [V.d (.str []), V.d (.str []), V.d (.int .i64 0), V.d (.int .i64 0), V.d (.int .i64 0), V.d (.int .i64 0)] [(0, 1, (V.d (.str [119, 104, 111, 108, 101]))), (2, 1, (s 5))]).map V.agg) (fun x1 =>
storeK (s 4) (cellsV x1) 6 o (fun m2 ob3 =>
Q .normal (St.mk (look [(0, (s 0)), (3, (s 3)), (4, (s 4))]) (upd o m2 (some ob3)))))) := rfl
@[instance] theorem g_tree_parser_leaf_c0_u : UnfAt (wpB C I g_tree_parser_leaf.c0 (St.mk s o) Q) g_tree_parser_leaf_c0_sh := Unf.of _
theorem g_tree_parser_leaf_c1_sh : wpB C I (.region [0, 3, 4] none none
   [⟨some 34, .mv (.t 7), [], [], none, none⟩,
    ⟨some 35, .build [.d (.str []), .d (.str []), .d (.int .i64 0), .d (.int .i64 0), .d (.int .i64 0), .d (.int .i64 0)] [(0, 1, (.c (.d (.str [97, 109, 111, 117, 110, 116])))), (2, 1, (.t 34))], [], [], none, none⟩,
    ⟨none, .store 6 (.t 4) (.t 35), [], [], none, none⟩]) (St.mk s o) Q =
 (demand ((buildN [V.d (.str []), V.d (.str []), V.d (.int .i64 0), V.d (.int .i64 0), V.d (.int .i64 0), V.d (.int .i64 0)] [(0, 1, (V.d (.str [97, 109, 111, 117, 110, 116]))), (2, 1, (s 7))]).map V.agg) (fun x1 =>
storeK (s 4) (cellsV x1) 6 o (fun m2 ob3 =>
Q .normal (St.mk (look [(0, (s 0)), (3, (s 3)), (4, (s 4))]) (upd o m2 (some ob3)))))) := rfl
@[instance] theorem g_tree_parser_leaf_c1_u : UnfAt (wpB C I g_tree_parser_leaf.c1 (St.mk s o) Q) g_tree_parser_leaf_c1_sh := Unf.of _
theorem g_tree_parser_leaf_c2_sh : wpB C I (.region [0, 3, 4] none none
   [⟨some 44, .mv (.t 9), [], [], none, none⟩,
    ⟨some 45, .build [.d (.str []), .d (.str []), .d (.int .i64 0), .d (.int .i64 0), .d (.int .i64 0), .d (.int .i64 0)] [(0, 1, (.c (.d (.str [114, 97, 116, 101])))), (2, 1, (.t 44))], [], [], none, none⟩,
    ⟨none, .store 6 (.t 4) (.t 45), [], [], none, none⟩]) (St.mk s o) Q =
 (demand ((buildN [V.d (.str []), V.d (.str []), V.d (.int .i64 0), V.d (.int .i64 0), V.d (.int .i64 0), V.d (.int .i64 0)] [(0, 1, (V.d (.str [114, 97, 116, 101]))), (2, 1, (s 9))]).map V.agg) (fun x1 =>
storeK (s 4) (cellsV x1) 6 o (fun m2 ob3 =>
Q .normal (St.mk (look [(0, (s 0)), (3, (s 3)), (4, (s 4))]) (upd o m2 (some ob3)))))) := rfl
@[instance] theorem g_tree_parser_leaf_c2_u : UnfAt (wpB C I g_tree_parser_leaf.c2 (St.mk s o) Q) g_tree_parser_leaf_c2_sh := Unf.of _
theorem g_tree_parser_leaf_o3_sh : opsB C I [⟨some 64, .pick (.t 54) (.c (.d (.bool true))) (.t 63), [], [], none, none⟩] (St.mk s o) K =
 (demand (pickV (s 54) (V.d (.bool true)) (s 63)) (fun x1 =>
K (St.mk (upd s 64 x1) o))) := rfl
@[instance] theorem g_tree_parser_leaf_o3_u : UnfAt (opsB C I g_tree_parser_leaf.o3 (St.mk s o) K) g_tree_parser_leaf_o3_sh := Unf.of _
theorem g_tree_parser_leaf_o2_sh : opsB C I (⟨some 63, .pick (.t 58) (.t 62) (.c (.d (.bool false))), [], [], (some (3, 54, false)), (some ([0, 4, 54, 63], none))⟩ ::
     R_o3) (St.mk s o) K =
 (guardK (s 54) false
 (demand (pickV (s 58) (s 62) (V.d (.bool false))) (fun x1 =>
opsB C I R_o3 (St.mk (look [(0, (s 0)), (4, (s 4)), (54, (V.d (D.bool false))), (63, x1)]) o) K))
 (opsB C I R_o3 (St.mk (look [(0, (s 0)), (4, (s 4)), (54, (V.d (D.bool true))), (63, (V.tup []))]) o) K)
 (opsB C I R_o3 (St.mk (look [(0, (s 0)), (4, (s 4)), (54, (V.tup [])), (63, (V.tup []))]) o) K)) := rfl
@[instance] theorem g_tree_parser_leaf_o2_u : UnfAt (opsB C I g_tree_parser_leaf.o2 (St.mk s o) K) g_tree_parser_leaf_o2_sh := Unf.of _
theorem g_tree_parser_leaf_o1_sh : opsB C I (⟨some 59, .faddr 1 (.t 3), [], [], (some (7, 58, true)), none⟩ ::
     ⟨some 60, .load none (.t 59), [], [], (some (7, 58, true)), none⟩ ::
     ⟨some 61, .call 158 [(.t 60)], [], [], (some (7, 58, true)), none⟩ ::
     ⟨some 62, .un .not (.t 61), [], [], (some (7, 58, true)), (some ([0, 4, 54, 58, 62], none))⟩ ::
     R_o2) (St.mk s o) K =
 (guardK (s 58) true
 (demand (faddrV 1 (s 3)) (fun x1 =>
demand (loadV o none x1) (fun x2 =>
callK C I (St.mk (upd (upd (upd (upd (upd s 58 (V.d (D.bool true))) 59 x1) 58 (V.d (D.bool true))) 60 x2) 58 (V.d (D.bool true))) o) (some 61) 158 [x2] (fun r3 or3 =>
demand (unV UnOp.not r3) (fun x4 =>
opsB C I R_o2 (St.mk (look [(0, (s 0)), (4, (s 4)), (54, (s 54)), (58, (V.d (D.bool true))), (62, x4)]) or3) K)))))
 (opsB C I R_o2 (St.mk (look [(0, (s 0)), (4, (s 4)), (54, (s 54)), (58, (V.d (D.bool false))), (62, (V.tup []))]) o) K)
 (opsB C I R_o2 (St.mk (look [(0, (s 0)), (4, (s 4)), (54, (s 54)), (58, (V.tup [])), (62, (V.tup []))]) o) K)) := rfl
@[instance] theorem g_tree_parser_leaf_o1_u : UnfAt (opsB C I g_tree_parser_leaf.o1 (St.mk s o) K) g_tree_parser_leaf_o1_sh := Unf.of _
theorem g_tree_parser_leaf_o0_sh : opsB C I (⟨some 55, .faddr 0 (.t 4), [], [], (some (3, 54, false)), none⟩ ::
     ⟨some 56, .load none (.t 55), [], [], (some (3, 54, false)), none⟩ ::
     ⟨some 57, .bin .eql (.t 56) (.c (.d (.str [110, 97, 109, 101]))), [], [], (some (3, 54, false)), none⟩ ::
     ⟨some 58, .mv (.t 57), [], [], (some (3, 54, false)), (some ([0, 3, 4, 54, 58], none))⟩ ::
     R_o1) (St.mk s o) K =
 (guardK (s 54) false
 (demand (faddrV 0 (s 4)) (fun x1 =>
demand (loadV o none x1) (fun x2 =>
demand (binV BinOp.eql x2 (V.d (.str [110, 97, 109, 101]))) (fun x3 =>
opsB C I R_o1 (St.mk (look [(0, (s 0)), (3, (s 3)), (4, (s 4)), (54, (V.d (D.bool false))), (58, x3)]) o) K))))
 (opsB C I R_o1 (St.mk (look [(0, (s 0)), (3, (s 3)), (4, (s 4)), (54, (V.d (D.bool true))), (58, (V.tup []))]) o) K)
 (opsB C I R_o1 (St.mk (look [(0, (s 0)), (3, (s 3)), (4, (s 4)), (54, (V.tup [])), (58, (V.tup []))]) o) K)) := rfl
@[instance] theorem g_tree_parser_leaf_o0_u : UnfAt (opsB C I g_tree_parser_leaf.o0 (St.mk s o) K) g_tree_parser_leaf_o0_sh := Unf.of _
theorem g_tree_parser_leaf_c3_sh : wpB C I (.cond (.t 64) (.seq (.region [] none none
     [⟨some 65, .mv (.t 0), [], [], none, none⟩,
      ⟨some 66, .call 218 [(.t 65), (.c (.d (.int .i64 2)))], [], [], none, none⟩])
  (.seq (.region [2] none none
      [⟨some 2, .mv (.c (.d (.int .i64 0))), [], [], none, none⟩])
   (.ret)))
 (.skip)) (St.mk s o) Q =
 (condK (s 64)
 (callK C I (St.mk (upd s 65 (s 0)) o) (some 66) 218 [(s 0), (V.d (.int .i64 2))] (fun r1 or1 =>
Q .ret (St.mk (look [(2, (V.d (.int .i64 0)))]) or1)))
 (Q .normal (St.mk s o))) := rfl
@[instance] theorem g_tree_parser_leaf_c3_u : UnfAt (wpB C I g_tree_parser_leaf.c3 (St.mk s o) Q) g_tree_parser_leaf_c3_sh := Unf.of _
theorem g_tree_parser_leaf_c4_sh : wpB C I (.seq (.region [2] none none
    [⟨some 74, .mv (.t 0), [], [], none, none⟩,
     ⟨some 75, .load (some 6) (.t 4), [], [], none, none⟩,
     ⟨some 76, .call 222 [(.t 74), (.t 75)], [], [], none, none⟩,
     ⟨some 2, .mv (.t 76), [], [], none, none⟩])
 (.ret)) (St.mk s o) Q =
 (demand (loadV o (some 6) (s 4)) (fun x1 =>
callK C I (St.mk (upd (upd s 74 (s 0)) 75 x1) o) (some 76) 222 [(s 0), x1] (fun r2 or2 =>
Q .ret (St.mk (look [(2, r2)]) or2)))) := rfl
@[instance] theorem g_tree_parser_leaf_c4_u : UnfAt (wpB C I g_tree_parser_leaf.c4 (St.mk s o) Q) g_tree_parser_leaf_c4_sh := Unf.of _
theorem g_tree_parser_leaf_c5_sh : wpB C I (.seq (.region [0, 4] none none
    [⟨some 67, .mv (.t 0), [], [], none, none⟩,
     ⟨some 68, .nilc (.t 67), [], [], none, none⟩,
     ⟨some 69, .faddr 2 (.t 68), [], [], none, none⟩,
     ⟨some 70, .load none (.t 69), [], [], none, none⟩,
     ⟨some 71, .bin .add (.t 70) (.c (.d (.int .i64 1))), [], [], none, none⟩,
     ⟨some 72, .nilc (.t 67), [], [], none, none⟩,
     ⟨some 73, .faddr 2 (.t 72), [], [], none, none⟩,
     ⟨none, .store 1 (.t 73) (.t 71), [], [], none, none⟩])
 (R_c4)) (St.mk s o) Q =
 (demand (nilcV (s 0)) (fun x1 =>
demand (faddrV 2 x1) (fun x2 =>
demand (loadV o none x2) (fun x3 =>
demand (binV BinOp.add x3 (V.d (.int .i64 1))) (fun x4 =>
demand (nilcV (s 0)) (fun x5 =>
demand (faddrV 2 x5) (fun x6 =>
storeK x6 (cellsV x4) 1 o (fun m7 ob8 =>
wpB C I R_c4 (St.mk (look [(0, (s 0)), (4, (s 4))]) (upd o m7 (some ob8))) Q)))))))) := rfl
@[instance] theorem g_tree_parser_leaf_c5_u : UnfAt (wpB C I g_tree_parser_leaf.c5 (St.mk s o) Q) g_tree_parser_leaf_c5_sh := Unf.of _
theorem g_tree_parser_leaf_c6_sh : wpB C I (.seq (.seq (.region [0, 4, 64] none none
     (⟨some 51, .faddr 0 (.t 4), [], [], none, none⟩ ::
      ⟨some 52, .load none (.t 51), [], [], none, none⟩ ::
      ⟨some 53, .bin .eql (.t 52) (.c (.d (.str []))), [], [], none, none⟩ ::
      ⟨some 54, .mv (.t 53), [], [], none, (some ([0, 3, 4, 54], none))⟩ ::
      R_o0))
  (R_c3))
 (R_c5)) (St.mk s o) Q =
 (demand (faddrV 0 (s 4)) (fun x1 =>
demand (loadV o none x1) (fun x2 =>
demand (binV BinOp.eql x2 (V.d (.str []))) (fun x3 =>
opsB C I R_o0 (St.mk (look [(0, (s 0)), (3, (s 3)), (4, (s 4)), (54, x3)]) o) (fun st => (seqK (fun st => wpB C I R_c3 st (seqK (fun st => wpB C I R_c5 st Q) Q)) (seqK (fun st => wpB C I R_c5 st Q) Q)) .normal (St.trim st [0, 4, 64] none)))))) := rfl
@[instance] theorem g_tree_parser_leaf_c6_u : UnfAt (wpB C I g_tree_parser_leaf.c6 (St.mk s o) Q) g_tree_parser_leaf_c6_sh := Unf.of _
theorem g_tree_parser_leaf_c7_sh : wpB C I (.seq (.region [0, 3, 4] none none
    [⟨some 13, .build [.d (.str []), .d (.str []), .d (.int .i64 0), .d (.int .i64 0), .d (.int .i64 0), .d (.int .i64 0)] [], [], [], none, none⟩,
     ⟨some 4, .alloc 4 [.d (.str []), .d (.str []), .d (.int .i64 0), .d (.int .i64 0), .d (.int .i64 0), .d (.int .i64 0)], [], [], none, none⟩,
     ⟨none, .store 6 (.t 4) (.t 13), [], [], none, none⟩])
 (.seq (.seq (.region [0, 3, 4, 15] none none
      [⟨some 14, .faddr 0 (.t 3), [], [], none, none⟩,
       ⟨some 15, .load none (.t 14), [], [], none, none⟩])
   (.block 0 [0, 3, 4] none (.seq (.region [0, 3, 4, 15, 16] none none
        [⟨some 17, .bin .eql (.t 15) (.c (.d (.int .i64 2))), [], [], none, none⟩,
         ⟨some 16, .mv (.t 17), [], [], none, none⟩])
     (.cond (.t 16) (.seq (.region [0, 3, 4, 5] none none
          [⟨some 19, .faddr 1 (.t 3), [], [], none, none⟩,
           ⟨some 20, .load none (.t 19), [], [], none, none⟩,
           ⟨some 21, .call 70 [(.t 20)], [], [], none, none⟩,
           ⟨some 18, .mv (.t 21), [], [], none, none⟩,
           ⟨some 22, .ext (.t 18) 0, [], [], none, none⟩,
           ⟨some 23, .ext (.t 18) 1, [], [], none, none⟩,
           ⟨some 5, .mv (.t 22), [], [], none, none⟩,
           ⟨some 6, .mv (.t 23), [], [], none, none⟩])
       (R_c0))
      (.seq (.region [0, 3, 4, 15, 26] none none
          [⟨some 27, .bin .eql (.t 15) (.c (.d (.int .i64 3))), [], [], none, none⟩,
           ⟨some 26, .mv (.t 27), [], [], none, none⟩])
       (.cond (.t 26) (.seq (.region [0, 3, 4, 7] none none
            [⟨some 29, .faddr 1 (.t 3), [], [], none, none⟩,
             ⟨some 30, .load none (.t 29), [], [], none, none⟩,
             ⟨some 31, .call 51 [(.t 30)], [], [], none, none⟩,
             ⟨some 28, .mv (.t 31), [], [], none, none⟩,
             ⟨some 32, .ext (.t 28) 0, [], [], none, none⟩,
             ⟨some 33, .ext (.t 28) 1, [], [], none, none⟩,
             ⟨some 7, .mv (.t 32), [], [], none, none⟩,
             ⟨some 8, .mv (.t 33), [], [], none, none⟩])
         (R_c1))
        (.seq (.region [0, 3, 4, 15, 36] none none
            [⟨some 37, .bin .eql (.t 15) (.c (.d (.int .i64 4))), [], [], none, none⟩,
             ⟨some 36, .mv (.t 37), [], [], none, none⟩])
         (.cond (.t 36) (.seq (.region [0, 3, 4, 9] none none
              [⟨some 39, .faddr 1 (.t 3), [], [], none, none⟩,
               ⟨some 40, .load none (.t 39), [], [], none, none⟩,
               ⟨some 41, .call 92 [(.t 40)], [], [], none, none⟩,
               ⟨some 38, .mv (.t 41), [], [], none, none⟩,
               ⟨some 42, .ext (.t 38) 0, [], [], none, none⟩,
               ⟨some 43, .ext (.t 38) 1, [], [], none, none⟩,
               ⟨some 9, .mv (.t 42), [], [], none, none⟩,
               ⟨some 10, .mv (.t 43), [], [], none, none⟩])
           (R_c2))
          (.seq (.region [0, 3, 4, 46] none none
              [⟨some 47, .bin .eql (.t 15) (.c (.d (.int .i64 1))), [], [], none, none⟩,
               ⟨some 46, .mv (.t 47), [], [], none, none⟩])
           (.cond (.t 46) (.region [0, 3, 4] none none
               [⟨some 48, .faddr 1 (.t 3), [], [], none, none⟩,
                ⟨some 49, .load none (.t 48), [], [], none, none⟩,
                ⟨some 50, .build [.d (.str []), .d (.str []), .d (.int .i64 0), .d (.int .i64 0), .d (.int .i64 0), .d (.int .i64 0)] [(0, 1, (.c (.d (.str [110, 97, 109, 101])))), (1, 1, (.t 49))], [], [], none, none⟩,
                ⟨none, .store 6 (.t 4) (.t 50), [], [], none, none⟩])
            (.skip)))))))))))
  (R_c6))) (St.mk s o) Q =
 (demand ((buildN [V.d (.str []), V.d (.str []), V.d (.int .i64 0), V.d (.int .i64 0), V.d (.int .i64 0), V.d (.int .i64 0)] []).map V.agg) (fun x1 =>
(¬ I 4 ∧ Fresh (St.mk (upd s 13 x1) o) 4 (some 4) ∧ V.refsL 4 [V.d (.str []), V.d (.str []), V.d (.int .i64 0), V.d (.int .i64 0), V.d (.int .i64 0), V.d (.int .i64 0)] = false ∧
storeK (V.ptr 4 0) (cellsV x1) 6 (upd o 4 (some (Ob.box [V.d (.str []), V.d (.str []), V.d (.int .i64 0), V.d (.int .i64 0), V.d (.int .i64 0), V.d (.int .i64 0)]))) (fun m2 ob3 =>
demand (faddrV 0 (s 3)) (fun x4 =>
demand (loadV (upd (upd o 4 (some (Ob.box [V.d (.str []), V.d (.str []), V.d (.int .i64 0), V.d (.int .i64 0), V.d (.int .i64 0), V.d (.int .i64 0)]))) m2 (some ob3)) none x4) (fun x5 =>
demand (binV BinOp.eql x5 (V.d (.int .i64 2))) (fun x6 =>
condK x6
 (demand (faddrV 1 (s 3)) (fun x7 =>
demand (loadV (upd (upd o 4 (some (Ob.box [V.d (.str []), V.d (.str []), V.d (.int .i64 0), V.d (.int .i64 0), V.d (.int .i64 0), V.d (.int .i64 0)]))) m2 (some ob3)) none x7) (fun x8 =>
callK C I (St.mk (upd (upd (look [(0, (s 0)), (3, (s 3)), (4, (V.ptr 4 0)), (15, x5), (16, x6)]) 19 x7) 20 x8) (upd (upd o 4 (some (Ob.box [V.d (.str []), V.d (.str []), V.d (.int .i64 0), V.d (.int .i64 0), V.d (.int .i64 0), V.d (.int .i64 0)]))) m2 (some ob3))) (some 21) 70 [x8] (fun r9 or9 =>
demand (extV r9 0) (fun x10 =>
demand (extV r9 1) (fun x11 =>
wpB C I R_c0 (St.mk (look [(0, (s 0)), (3, (s 3)), (4, (V.ptr 4 0)), (5, x10)]) or9) (blockK 0 [0, 3, 4] none (seqK (fun st => wpB C I R_c6 st Q) Q))))))))
 (demand (binV BinOp.eql x5 (V.d (.int .i64 3))) (fun x12 =>
condK x12
 (demand (faddrV 1 (s 3)) (fun x13 =>
demand (loadV (upd (upd o 4 (some (Ob.box [V.d (.str []), V.d (.str []), V.d (.int .i64 0), V.d (.int .i64 0), V.d (.int .i64 0), V.d (.int .i64 0)]))) m2 (some ob3)) none x13) (fun x14 =>
callK C I (St.mk (upd (upd (look [(0, (s 0)), (3, (s 3)), (4, (V.ptr 4 0)), (15, x5), (26, x12)]) 29 x13) 30 x14) (upd (upd o 4 (some (Ob.box [V.d (.str []), V.d (.str []), V.d (.int .i64 0), V.d (.int .i64 0), V.d (.int .i64 0), V.d (.int .i64 0)]))) m2 (some ob3))) (some 31) 51 [x14] (fun r15 or15 =>
demand (extV r15 0) (fun x16 =>
demand (extV r15 1) (fun x17 =>
wpB C I R_c1 (St.mk (look [(0, (s 0)), (3, (s 3)), (4, (V.ptr 4 0)), (7, x16)]) or15) (blockK 0 [0, 3, 4] none (seqK (fun st => wpB C I R_c6 st Q) Q))))))))
 (demand (binV BinOp.eql x5 (V.d (.int .i64 4))) (fun x18 =>
condK x18
 (demand (faddrV 1 (s 3)) (fun x19 =>
demand (loadV (upd (upd o 4 (some (Ob.box [V.d (.str []), V.d (.str []), V.d (.int .i64 0), V.d (.int .i64 0), V.d (.int .i64 0), V.d (.int .i64 0)]))) m2 (some ob3)) none x19) (fun x20 =>
callK C I (St.mk (upd (upd (look [(0, (s 0)), (3, (s 3)), (4, (V.ptr 4 0)), (15, x5), (36, x18)]) 39 x19) 40 x20) (upd (upd o 4 (some (Ob.box [V.d (.str []), V.d (.str []), V.d (.int .i64 0), V.d (.int .i64 0), V.d (.int .i64 0), V.d (.int .i64 0)]))) m2 (some ob3))) (some 41) 92 [x20] (fun r21 or21 =>
demand (extV r21 0) (fun x22 =>
demand (extV r21 1) (fun x23 =>
wpB C I R_c2 (St.mk (look [(0, (s 0)), (3, (s 3)), (4, (V.ptr 4 0)), (9, x22)]) or21) (blockK 0 [0, 3, 4] none (seqK (fun st => wpB C I R_c6 st Q) Q))))))))
 (demand (binV BinOp.eql x5 (V.d (.int .i64 1))) (fun x24 =>
condK x24
 (demand (faddrV 1 (s 3)) (fun x25 =>
demand (loadV (upd (upd o 4 (some (Ob.box [V.d (.str []), V.d (.str []), V.d (.int .i64 0), V.d (.int .i64 0), V.d (.int .i64 0), V.d (.int .i64 0)]))) m2 (some ob3)) none x25) (fun x26 =>
demand ((buildN [V.d (.str []), V.d (.str []), V.d (.int .i64 0), V.d (.int .i64 0), V.d (.int .i64 0), V.d (.int .i64 0)] [(0, 1, (V.d (.str [110, 97, 109, 101]))), (1, 1, x26)]).map V.agg) (fun x27 =>
storeK (V.ptr 4 0) (cellsV x27) 6 (upd (upd o 4 (some (Ob.box [V.d (.str []), V.d (.str []), V.d (.int .i64 0), V.d (.int .i64 0), V.d (.int .i64 0), V.d (.int .i64 0)]))) m2 (some ob3)) (fun m28 ob29 =>
wpB C I R_c6 (St.mk (look [(0, (s 0)), (3, (s 3)), (4, (V.ptr 4 0))]) (upd (upd (upd o 4 (some (Ob.box [V.d (.str []), V.d (.str []), V.d (.int .i64 0), V.d (.int .i64 0), V.d (.int .i64 0), V.d (.int .i64 0)]))) m2 (some ob3)) m28 (some ob29))) Q)))))
 (wpB C I R_c6 (St.mk (look [(0, (s 0)), (3, (s 3)), (4, (V.ptr 4 0))]) (upd (upd o 4 (some (Ob.box [V.d (.str []), V.d (.str []), V.d (.int .i64 0), V.d (.int .i64 0), V.d (.int .i64 0), V.d (.int .i64 0)]))) m2 (some ob3))) Q)))))))))))))) := rfl
@[instance] theorem g_tree_parser_leaf_c7_u : UnfAt (wpB C I g_tree_parser_leaf.c7 (St.mk s o) Q) g_tree_parser_leaf_c7_sh := Unf.of _
theorem g_tree_parser_leaf_code_sh : wpB C I (.seq (.region [0] none none
    [⟨some 2, .mv (.c (.d (.int .i64 0))), [], [], none, none⟩])
 (.seq (.region [0, 3] none none
     [⟨some 11, .mv (.t 0), [], [], none, none⟩,
      ⟨some 12, .call 217 [(.t 11)], [], [], none, none⟩,
      ⟨some 3, .alloc 3 [.d (.int .i64 0), .d (.str []), .d (.int .i64 0)], [], [], none, none⟩,
      ⟨none, .store 3 (.t 3) (.t 12), [], [], none, none⟩])
  (R_c7))) (St.mk s o) Q =
 (callK C I (St.mk (upd (look [(0, (s 0))]) 11 (s 0)) o) (some 12) 217 [(s 0)] (fun r1 or1 =>
(¬ I 3 ∧ Fresh (St.mk (upd (upd (look [(0, (s 0))]) 11 (s 0)) 12 r1) or1) 3 (some 3) ∧ V.refsL 3 [V.d (.int .i64 0), V.d (.str []), V.d (.int .i64 0)] = false ∧
storeK (V.ptr 3 0) (cellsV r1) 3 (upd or1 3 (some (Ob.box [V.d (.int .i64 0), V.d (.str []), V.d (.int .i64 0)]))) (fun m2 ob3 =>
wpB C I R_c7 (St.mk (look [(0, (s 0)), (3, (V.ptr 3 0))]) (upd (upd or1 3 (some (Ob.box [V.d (.int .i64 0), V.d (.str []), V.d (.int .i64 0)]))) m2 (some ob3))) Q)))) := rfl
@[instance] theorem g_tree_parser_leaf_code_u : UnfAt (wpB C I g_tree_parser_leaf.code (St.mk s o) Q) g_tree_parser_leaf_code_sh := Unf.of _
theorem g_internal_stringslite_HasSuffix_o1_sh : opsB C I [⟨some 20, .pick (.t 10) (.t 19) (.c (.d (.bool false))), [], [], none, none⟩,
     ⟨some 4, .mv (.t 20), [], [], none, none⟩] (St.mk s o) K =
 (demand (pickV (s 10) (s 19) (V.d (.bool false))) (fun x1 =>
K (St.mk (upd (upd s 20 x1) 4 x1) o))) := rfl
@[instance] theorem g_internal_stringslite_HasSuffix_o1_u : UnfAt (opsB C I g_internal_stringslite_HasSuffix.o1 (St.mk s o) K) g_internal_stringslite_HasSuffix_o1_sh := Unf.of _
theorem g_internal_stringslite_HasSuffix_o0_sh : opsB C I (⟨some 11, .mv (.t 0), [], [], (some (5, 10, true)), none⟩ ::
     ⟨some 12, .mv (.t 0), [], [], (some (5, 10, true)), none⟩ ::
     ⟨some 13, .lenS (.t 12), [], [], (some (5, 10, true)), none⟩ ::
     ⟨some 14, .mv (.t 1), [], [], (some (5, 10, true)), none⟩ ::
     ⟨some 15, .lenS (.t 14), [], [], (some (5, 10, true)), none⟩ ::
     ⟨some 16, .bin .sub (.t 13) (.t 15), [], [], (some (5, 10, true)), none⟩ ::
     ⟨some 17, .slcS (.t 11) (some (.t 16)) none, [], [], (some (5, 10, true)), none⟩ ::
     ⟨some 18, .mv (.t 1), [], [], (some (5, 10, true)), none⟩ ::
     ⟨some 19, .bin .eql (.t 17) (.t 18), [], [], (some (5, 10, true)), (some ([10, 19], (some [])))⟩ ::
     R_o1) (St.mk s o) K =
 (guardK (s 10) true
 (demand (lenSV (s 0)) (fun x1 =>
demand (lenSV (s 1)) (fun x2 =>
demand (binV BinOp.sub x1 x2) (fun x3 =>
demand (slcSV (s 0) (some x3) none) (fun x4 =>
demand (binV BinOp.eql x4 (s 1)) (fun x5 =>
opsB C I R_o1 (St.mk (look [(10, (V.d (D.bool true))), (19, x5)]) (looko ([].map fun n => (n, o n)))) K))))))
 (opsB C I R_o1 (St.mk (look [(10, (V.d (D.bool false))), (19, (V.tup []))]) (looko ([].map fun n => (n, o n)))) K)
 (opsB C I R_o1 (St.mk (look [(10, (V.tup [])), (19, (V.tup []))]) (looko ([].map fun n => (n, o n)))) K)) := rfl
@[instance] theorem g_internal_stringslite_HasSuffix_o0_u : UnfAt (opsB C I g_internal_stringslite_HasSuffix.o0 (St.mk s o) K) g_internal_stringslite_HasSuffix_o0_sh := Unf.of _
theorem g_internal_stringslite_HasSuffix_c0_sh : wpB C I (.ret) (St.mk s o) Q =
 (Q .ret (St.mk s o)) := rfl
@[instance] theorem g_internal_stringslite_HasSuffix_c0_u : UnfAt (wpB C I g_internal_stringslite_HasSuffix.c0 (St.mk s o) Q) g_internal_stringslite_HasSuffix_c0_sh := Unf.of _
theorem g_internal_stringslite_HasSuffix_code_sh : wpB C I (.seq (.region [0, 1] (some []) none
    [⟨some 4, .mv (.c (.d (.bool false))), [], [], none, none⟩])
 (.seq (.region [4] (some []) none
     (⟨some 5, .mv (.t 0), [], [], none, none⟩ ::
      ⟨some 6, .lenS (.t 5), [], [], none, none⟩ ::
      ⟨some 7, .mv (.t 1), [], [], none, none⟩ ::
      ⟨some 8, .lenS (.t 7), [], [], none, none⟩ ::
      ⟨some 9, .bin .geq (.t 6) (.t 8), [], [], none, none⟩ ::
      ⟨some 10, .mv (.t 9), [], [], none, (some ([0, 1, 10], (some [])))⟩ ::
      R_o0))
  (R_c0))) (St.mk s o) Q =
 (demand (lenSV (s 0)) (fun x1 =>
demand (lenSV (s 1)) (fun x2 =>
demand (binV BinOp.geq x1 x2) (fun x3 =>
opsB C I R_o0 (St.mk (look [(0, (s 0)), (1, (s 1)), (10, x3)]) (looko ([].map fun n => (n, o n)))) (fun st => (seqK (fun st => wpB C I R_c0 st Q) Q) .normal (St.trim st [4] (some []))))))) := rfl
@[instance] theorem g_internal_stringslite_HasSuffix_code_u : UnfAt (wpB C I g_internal_stringslite_HasSuffix.code (St.mk s o) Q) g_internal_stringslite_HasSuffix_code_sh := Unf.of _

end Pay
