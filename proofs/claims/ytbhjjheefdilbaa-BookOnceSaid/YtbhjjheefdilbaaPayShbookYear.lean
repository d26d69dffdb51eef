/- What the code of one function comes to, without slots: an equation for each part; no condition. -/
import Derived.Test.YtbhjjheefdilbaaPayU
import Derived.Test.YtbhjjheefdilbaaPayBkCode
set_option maxRecDepth 20000
set_option maxHeartbeats 400000
set_option linter.unusedVariables false
namespace Pay
open Go
theorem g_book_Year_t2_sh {C : Ctx} {I : Nat → Prop} {s : Nat → V} {o : Nat → Option Ob} {K : St → Prop} : treeB C I g_book_Year.a0 (.one 6 .done) (St.mk s o) K =
 ((([] : List Nat) = [] ∧ (storeK (s 10) (cellsV (s 20)) 5 o (fun m1 ob2 =>
K (St.mk s (upd o m1 (some ob2))))))) := rfl

theorem g_book_Year_t3_sh {R_t2 : Tr} {C : Ctx} {I : Nat → Prop} {s : Nat → V} {o : Nat → Option Ob} {K : St → Prop} : treeB C I g_book_Year.a0 (.one 5 R_t2) (St.mk s o) K =
 ((([] : List Nat) = [] ∧ ((¬ I 10 ∧ Fresh (St.mk s o) 10 (some 10) ∧ V.refsL 10 [V.d (.int .i64 0), V.d (.int .i64 0), V.d (.int .i64 0), V.cap0, V.cap0] = false ∧
treeB C I g_book_Year.a0 R_t2 (St.mk (upd s 10 (V.ptr 10 0)) (upd o 10 (some (Ob.box [V.d (.int .i64 0), V.d (.int .i64 0), V.d (.int .i64 0), V.cap0, V.cap0])))) K)))) := rfl

theorem g_book_Year_t4_sh {R_t2 : Tr} {C : Ctx} {I : Nat → Prop} {s : Nat → V} {o : Nat → Option Ob} {K : St → Prop} : treeB C I g_book_Year.a0 (.one 4 R_t2) (St.mk s o) K =
 ((([] : List Nat) = [] ∧ (demand ((buildN [V.d (.int .i64 0), V.d (.int .i64 0), V.d (.int .i64 0), V.cap0, V.cap0] [(3, 1, (s 17)), (4, 1, (s 19))]).map V.agg) (fun x1 =>
treeB C I g_book_Year.a0 R_t2 (St.mk (upd s 20 x1) o) K)))) := rfl

theorem g_book_Year_t5_sh {R_t4 : Tr} {C : Ctx} {I : Nat → Prop} {s : Nat → V} {o : Nat → Option Ob} {K : St → Prop} : treeB C I g_book_Year.a0 (.one 5 R_t4) (St.mk s o) K =
 ((([] : List Nat) = [] ∧ ((¬ I 10 ∧ Fresh (St.mk s o) 10 (some 10) ∧ V.refsL 10 [V.d (.int .i64 0), V.d (.int .i64 0), V.d (.int .i64 0), V.cap0, V.cap0] = false ∧
treeB C I g_book_Year.a0 R_t4 (St.mk (upd s 10 (V.ptr 10 0)) (upd o 10 (some (Ob.box [V.d (.int .i64 0), V.d (.int .i64 0), V.d (.int .i64 0), V.cap0, V.cap0])))) K)))) := rfl

theorem g_book_Year_t6_sh {R_t3 : Tr} {R_t5 : Tr} {C : Ctx} {I : Nat → Prop} {s : Nat → V} {o : Nat → Option Ob} {K : St → Prop} : treeB C I g_book_Year.a0 (.two 4 R_t3 R_t5) (St.mk s o) K =
 ((([] : List Nat) = [] ∧ (demand ((buildN [V.d (.int .i64 0), V.d (.int .i64 0), V.d (.int .i64 0), V.cap0, V.cap0] [(3, 1, (s 17)), (4, 1, (s 19))]).map V.agg) (fun x1 =>
treeB C I g_book_Year.a0 R_t3 (St.mk (upd s 20 x1) o) K))) ∧ treeB C I g_book_Year.a0 R_t5 (St.mk s o) K) := rfl

theorem g_book_Year_t7_sh {R_t4 : Tr} {C : Ctx} {I : Nat → Prop} {s : Nat → V} {o : Nat → Option Ob} {K : St → Prop} : treeB C I g_book_Year.a0 (.one 3 R_t4) (St.mk s o) K =
 ((([] : List Nat) = [] ∧ (intK (s 18) (fun n1 => 0 ≤ n1 ∧ n1.toNat * 8 ≤ 140737488355328 ∧ n1 ≤ 140737488355328 ∧ ¬ I 19 ∧ Fresh (St.mk s o) 19 (some 19) ∧
treeB C I g_book_Year.a0 R_t4 (St.mk (upd s 19 (V.own 19)) (upd o 19 (some (Ob.row 1 (List.replicate n1.toNat [(.int .i64 0)]))))) K)))) := rfl

theorem g_book_Year_t8_sh {R_t7 : Tr} {C : Ctx} {I : Nat → Prop} {s : Nat → V} {o : Nat → Option Ob} {K : St → Prop} : treeB C I g_book_Year.a0 (.one 5 R_t7) (St.mk s o) K =
 ((([] : List Nat) = [] ∧ ((¬ I 10 ∧ Fresh (St.mk s o) 10 (some 10) ∧ V.refsL 10 [V.d (.int .i64 0), V.d (.int .i64 0), V.d (.int .i64 0), V.cap0, V.cap0] = false ∧
treeB C I g_book_Year.a0 R_t7 (St.mk (upd s 10 (V.ptr 10 0)) (upd o 10 (some (Ob.box [V.d (.int .i64 0), V.d (.int .i64 0), V.d (.int .i64 0), V.cap0, V.cap0])))) K)))) := rfl

theorem g_book_Year_t9_sh {R_t6 : Tr} {R_t8 : Tr} {C : Ctx} {I : Nat → Prop} {s : Nat → V} {o : Nat → Option Ob} {K : St → Prop} : treeB C I g_book_Year.a0 (.two 3 R_t6 R_t8) (St.mk s o) K =
 ((([] : List Nat) = [] ∧ (intK (s 18) (fun n1 => 0 ≤ n1 ∧ n1.toNat * 8 ≤ 140737488355328 ∧ n1 ≤ 140737488355328 ∧ ¬ I 19 ∧ Fresh (St.mk s o) 19 (some 19) ∧
treeB C I g_book_Year.a0 R_t6 (St.mk (upd s 19 (V.own 19)) (upd o 19 (some (Ob.row 1 (List.replicate n1.toNat [(.int .i64 0)]))))) K))) ∧ treeB C I g_book_Year.a0 R_t8 (St.mk s o) K) := rfl

theorem g_book_Year_t10_sh {R_t4 : Tr} {C : Ctx} {I : Nat → Prop} {s : Nat → V} {o : Nat → Option Ob} {K : St → Prop} : treeB C I g_book_Year.a0 (.one 1 R_t4) (St.mk s o) K =
 ((([] : List Nat) = [] ∧ (intK (s 16) (fun n1 => 0 ≤ n1 ∧ n1.toNat * 8 ≤ 140737488355328 ∧ n1 ≤ 140737488355328 ∧ ¬ I 17 ∧ Fresh (St.mk s o) 17 (some 17) ∧
treeB C I g_book_Year.a0 R_t4 (St.mk (upd s 17 (V.own 17)) (upd o 17 (some (Ob.row 1 (List.replicate n1.toNat [(.int .i64 0)]))))) K)))) := rfl

theorem g_book_Year_t11_sh {R_t10 : Tr} {C : Ctx} {I : Nat → Prop} {s : Nat → V} {o : Nat → Option Ob} {K : St → Prop} : treeB C I g_book_Year.a0 (.one 5 R_t10) (St.mk s o) K =
 ((([] : List Nat) = [] ∧ ((¬ I 10 ∧ Fresh (St.mk s o) 10 (some 10) ∧ V.refsL 10 [V.d (.int .i64 0), V.d (.int .i64 0), V.d (.int .i64 0), V.cap0, V.cap0] = false ∧
treeB C I g_book_Year.a0 R_t10 (St.mk (upd s 10 (V.ptr 10 0)) (upd o 10 (some (Ob.box [V.d (.int .i64 0), V.d (.int .i64 0), V.d (.int .i64 0), V.cap0, V.cap0])))) K)))) := rfl

theorem g_book_Year_t12_sh {R_t6 : Tr} {R_t11 : Tr} {C : Ctx} {I : Nat → Prop} {s : Nat → V} {o : Nat → Option Ob} {K : St → Prop} : treeB C I g_book_Year.a0 (.two 1 R_t6 R_t11) (St.mk s o) K =
 ((([] : List Nat) = [] ∧ (intK (s 16) (fun n1 => 0 ≤ n1 ∧ n1.toNat * 8 ≤ 140737488355328 ∧ n1 ≤ 140737488355328 ∧ ¬ I 17 ∧ Fresh (St.mk s o) 17 (some 17) ∧
treeB C I g_book_Year.a0 R_t6 (St.mk (upd s 17 (V.own 17)) (upd o 17 (some (Ob.row 1 (List.replicate n1.toNat [(.int .i64 0)]))))) K))) ∧ treeB C I g_book_Year.a0 R_t11 (St.mk s o) K) := rfl

theorem g_book_Year_t13_sh {R_t10 : Tr} {C : Ctx} {I : Nat → Prop} {s : Nat → V} {o : Nat → Option Ob} {K : St → Prop} : treeB C I g_book_Year.a0 (.one 3 R_t10) (St.mk s o) K =
 ((([] : List Nat) = [] ∧ (intK (s 18) (fun n1 => 0 ≤ n1 ∧ n1.toNat * 8 ≤ 140737488355328 ∧ n1 ≤ 140737488355328 ∧ ¬ I 19 ∧ Fresh (St.mk s o) 19 (some 19) ∧
treeB C I g_book_Year.a0 R_t10 (St.mk (upd s 19 (V.own 19)) (upd o 19 (some (Ob.row 1 (List.replicate n1.toNat [(.int .i64 0)]))))) K)))) := rfl

theorem g_book_Year_t14_sh {R_t7 : Tr} {R_t13 : Tr} {C : Ctx} {I : Nat → Prop} {s : Nat → V} {o : Nat → Option Ob} {K : St → Prop} : treeB C I g_book_Year.a0 (.two 1 R_t7 R_t13) (St.mk s o) K =
 ((([] : List Nat) = [] ∧ (intK (s 16) (fun n1 => 0 ≤ n1 ∧ n1.toNat * 8 ≤ 140737488355328 ∧ n1 ≤ 140737488355328 ∧ ¬ I 17 ∧ Fresh (St.mk s o) 17 (some 17) ∧
treeB C I g_book_Year.a0 R_t7 (St.mk (upd s 17 (V.own 17)) (upd o 17 (some (Ob.row 1 (List.replicate n1.toNat [(.int .i64 0)]))))) K))) ∧ treeB C I g_book_Year.a0 R_t13 (St.mk s o) K) := rfl

theorem g_book_Year_t15_sh {R_t14 : Tr} {C : Ctx} {I : Nat → Prop} {s : Nat → V} {o : Nat → Option Ob} {K : St → Prop} : treeB C I g_book_Year.a0 (.one 5 R_t14) (St.mk s o) K =
 ((([] : List Nat) = [] ∧ ((¬ I 10 ∧ Fresh (St.mk s o) 10 (some 10) ∧ V.refsL 10 [V.d (.int .i64 0), V.d (.int .i64 0), V.d (.int .i64 0), V.cap0, V.cap0] = false ∧
treeB C I g_book_Year.a0 R_t14 (St.mk (upd s 10 (V.ptr 10 0)) (upd o 10 (some (Ob.box [V.d (.int .i64 0), V.d (.int .i64 0), V.d (.int .i64 0), V.cap0, V.cap0])))) K)))) := rfl

theorem g_book_Year_t16_sh {R_t12 : Tr} {R_t15 : Tr} {C : Ctx} {I : Nat → Prop} {s : Nat → V} {o : Nat → Option Ob} {K : St → Prop} : treeB C I g_book_Year.a0 (.two 3 R_t12 R_t15) (St.mk s o) K =
 ((([] : List Nat) = [] ∧ (intK (s 18) (fun n1 => 0 ≤ n1 ∧ n1.toNat * 8 ≤ 140737488355328 ∧ n1 ≤ 140737488355328 ∧ ¬ I 19 ∧ Fresh (St.mk s o) 19 (some 19) ∧
treeB C I g_book_Year.a0 R_t12 (St.mk (upd s 19 (V.own 19)) (upd o 19 (some (Ob.row 1 (List.replicate n1.toNat [(.int .i64 0)]))))) K))) ∧ treeB C I g_book_Year.a0 R_t15 (St.mk s o) K) := rfl

theorem g_book_Year_t17_sh {R_t9 : Tr} {R_t16 : Tr} {C : Ctx} {I : Nat → Prop} {s : Nat → V} {o : Nat → Option Ob} {K : St → Prop} : treeB C I g_book_Year.a0 (.two 1 R_t9 R_t16) (St.mk s o) K =
 ((([] : List Nat) = [] ∧ (intK (s 16) (fun n1 => 0 ≤ n1 ∧ n1.toNat * 8 ≤ 140737488355328 ∧ n1 ≤ 140737488355328 ∧ ¬ I 17 ∧ Fresh (St.mk s o) 17 (some 17) ∧
treeB C I g_book_Year.a0 R_t9 (St.mk (upd s 17 (V.own 17)) (upd o 17 (some (Ob.row 1 (List.replicate n1.toNat [(.int .i64 0)]))))) K))) ∧ treeB C I g_book_Year.a0 R_t16 (St.mk s o) K) := rfl

theorem g_book_Year_i1_sh {R_t17 : Tr} {C : Ctx} {I : Nat → Prop} {s : Nat → V} {o : Nat → Option Ob} {K : St → Prop} : drawB C I g_book_Year.a0 (2 :: []) R_t17 (St.mk s o) K =
 ((s 18) = V.undef ∧ (quietV o ((s 9) :: [(s 9)]) ∧
treeB C I g_book_Year.a0 R_t17 (St.mk (upd s 18 (s 9)) o) K)) := rfl

theorem g_book_Year_c0_sh {C : Ctx} {I : Nat → Prop} {s : Nat → V} {o : Nat → Option Ob} {Q : Ex → St → Prop} : wpB C I (.region [2, 8, 10, 23, 24, 25] (some [8, 10, 17, 19]) none
   [⟨some 67, .faddr 4 (.t 10), [], [], none, none⟩,
    ⟨some 68, .load none (.t 67), [], [], none, none⟩,
    ⟨some 69, .faddr 5 (.t 12), [], [], none, none⟩,
    ⟨some 70, .faddr 14 (.t 69), [], [], none, none⟩,
    ⟨some 71, .load none (.t 70), [], [], none, none⟩,
    ⟨some 72, .call 19 [(.t 68), (.t 71)], [71], [], none, none⟩]) (St.mk s o) Q =
 (demand (faddrV 4 (s 10)) (fun x1 =>
demand (loadV o none x1) (fun x2 =>
demand (faddrV 5 (s 12)) (fun x3 =>
demand (faddrV 14 x3) (fun x4 =>
demand (loadV o none x4) (fun x5 =>
frzK (St.mk (upd (upd (upd (upd (upd s 67 x1) 68 x2) 69 x3) 70 x4) 71 x5) o) [71] (fun st6 =>
callK C I (St.mk st6.s st6.o) (some 72) 19 [(st6.s 68), (st6.s 71)] (fun r7 or7 =>
Q .normal (St.mk (look [(2, (st6.s 2)), (8, (st6.s 8)), (10, (st6.s 10)), (23, (st6.s 23)), (24, (st6.s 24)), (25, (st6.s 25))]) (looko ([8, 10, 17, 19].map fun n => (n, or7 n)))))))))))) := rfl

theorem g_book_Year_c1_sh {R_c0 : ACode} {C : Ctx} {I : Nat → Prop} {s : Nat → V} {o : Nat → Option Ob} {Q : Ex → St → Prop} : wpB C I (.seq (.region [2, 8, 10, 12, 23, 24, 25] (some [8, 10, 12, 17, 19]) none
    [⟨some 61, .faddr 3 (.t 10), [], [], none, none⟩,
     ⟨some 62, .load none (.t 61), [], [], none, none⟩,
     ⟨some 63, .faddr 5 (.t 12), [], [], none, none⟩,
     ⟨some 64, .faddr 13 (.t 63), [], [], none, none⟩,
     ⟨some 65, .load none (.t 64), [], [], none, none⟩,
     ⟨some 66, .call 19 [(.t 62), (.t 65)], [65], [], none, none⟩])
 (R_c0)) (St.mk s o) Q =
 (demand (faddrV 3 (s 10)) (fun x1 =>
demand (loadV o none x1) (fun x2 =>
demand (faddrV 5 (s 12)) (fun x3 =>
demand (faddrV 13 x3) (fun x4 =>
demand (loadV o none x4) (fun x5 =>
frzK (St.mk (upd (upd (upd (upd (upd s 61 x1) 62 x2) 63 x3) 64 x4) 65 x5) o) [65] (fun st6 =>
callK C I (St.mk st6.s st6.o) (some 66) 19 [(st6.s 62), (st6.s 65)] (fun r7 or7 =>
wpB C I R_c0 (St.mk (look [(2, (st6.s 2)), (8, (st6.s 8)), (10, (st6.s 10)), (12, (st6.s 12)), (23, (st6.s 23)), (24, (st6.s 24)), (25, (st6.s 25))]) (looko ([8, 10, 12, 17, 19].map fun n => (n, or7 n)))) Q)))))))) := rfl

theorem g_book_Year_c2_sh {R_c1 : ACode} {C : Ctx} {I : Nat → Prop} {s : Nat → V} {o : Nat → Option Ob} {Q : Ex → St → Prop} : wpB C I (.seq (.region [2, 8, 10, 12, 23, 24, 25] (some [8, 10, 12, 17, 19]) none
    [⟨some 54, .faddr 2 (.t 10), [], [], none, none⟩,
     ⟨some 55, .load none (.t 54), [], [], none, none⟩,
     ⟨some 56, .faddr 5 (.t 12), [], [], none, none⟩,
     ⟨some 57, .faddr 8 (.t 56), [], [], none, none⟩,
     ⟨some 58, .load none (.t 57), [], [], none, none⟩,
     ⟨some 59, .bin .add (.t 55) (.t 58), [], [], none, none⟩,
     ⟨some 60, .faddr 2 (.t 10), [], [], none, none⟩,
     ⟨none, .store 1 (.t 60) (.t 59), [], [], none, none⟩])
 (R_c1)) (St.mk s o) Q =
 (demand (faddrV 2 (s 10)) (fun x1 =>
demand (loadV o none x1) (fun x2 =>
demand (faddrV 5 (s 12)) (fun x3 =>
demand (faddrV 8 x3) (fun x4 =>
demand (loadV o none x4) (fun x5 =>
demand (binV BinOp.add x2 x5) (fun x6 =>
demand (faddrV 2 (s 10)) (fun x7 =>
storeK x7 (cellsV x6) 1 o (fun m8 ob9 =>
wpB C I R_c1 (St.mk (look [(2, (s 2)), (8, (s 8)), (10, (s 10)), (12, (s 12)), (23, (s 23)), (24, (s 24)), (25, (s 25))]) (looko ([8, 10, 12, 17, 19].map fun n => (n, (upd o m8 (some ob9)) n)))) Q))))))))) := rfl

theorem g_book_Year_c3_sh {R_c2 : ACode} {C : Ctx} {I : Nat → Prop} {s : Nat → V} {o : Nat → Option Ob} {Q : Ex → St → Prop} : wpB C I (.seq (.region [2, 8, 10, 12, 23, 24, 25] (some [8, 10, 12, 17, 19]) none
    [⟨some 41, .faddr 1 (.t 10), [], [], none, none⟩,
     ⟨some 42, .load none (.t 41), [], [], none, none⟩,
     ⟨some 43, .faddr 5 (.t 12), [], [], none, none⟩,
     ⟨some 44, .faddr 1 (.t 43), [], [], none, none⟩,
     ⟨some 45, .faddr 0 (.t 44), [], [], none, none⟩,
     ⟨some 46, .load none (.t 45), [], [], none, none⟩,
     ⟨some 47, .faddr 5 (.t 12), [], [], none, none⟩,
     ⟨some 48, .faddr 4 (.t 47), [], [], none, none⟩,
     ⟨some 49, .faddr 0 (.t 48), [], [], none, none⟩,
     ⟨some 50, .load none (.t 49), [], [], none, none⟩,
     ⟨some 51, .bin .add (.t 46) (.t 50), [], [], none, none⟩,
     ⟨some 52, .bin .add (.t 42) (.t 51), [], [], none, none⟩,
     ⟨some 53, .faddr 1 (.t 10), [], [], none, none⟩,
     ⟨none, .store 1 (.t 53) (.t 52), [], [], none, none⟩])
 (R_c2)) (St.mk s o) Q =
 (demand (faddrV 1 (s 10)) (fun x1 =>
demand (loadV o none x1) (fun x2 =>
demand (faddrV 5 (s 12)) (fun x3 =>
demand (faddrV 1 x3) (fun x4 =>
demand (faddrV 0 x4) (fun x5 =>
demand (loadV o none x5) (fun x6 =>
demand (faddrV 5 (s 12)) (fun x7 =>
demand (faddrV 4 x7) (fun x8 =>
demand (faddrV 0 x8) (fun x9 =>
demand (loadV o none x9) (fun x10 =>
demand (binV BinOp.add x6 x10) (fun x11 =>
demand (binV BinOp.add x2 x11) (fun x12 =>
demand (faddrV 1 (s 10)) (fun x13 =>
storeK x13 (cellsV x12) 1 o (fun m14 ob15 =>
wpB C I R_c2 (St.mk (look [(2, (s 2)), (8, (s 8)), (10, (s 10)), (12, (s 12)), (23, (s 23)), (24, (s 24)), (25, (s 25))]) (looko ([8, 10, 12, 17, 19].map fun n => (n, (upd o m14 (some ob15)) n)))) Q))))))))))))))) := rfl

theorem g_book_Year_c4_sh {R_c3 : ACode} {C : Ctx} {I : Nat → Prop} {s : Nat → V} {o : Nat → Option Ob} {Q : Ex → St → Prop} : wpB C I (.seq (.region [2, 8, 10, 12, 23, 24, 25] (some [8, 10, 12, 17, 19]) none
    [⟨some 34, .faddr 0 (.t 10), [], [], none, none⟩,
     ⟨some 35, .load none (.t 34), [], [], none, none⟩,
     ⟨some 36, .faddr 5 (.t 12), [], [], none, none⟩,
     ⟨some 37, .faddr 7 (.t 36), [], [], none, none⟩,
     ⟨some 38, .load none (.t 37), [], [], none, none⟩,
     ⟨some 39, .bin .add (.t 35) (.t 38), [], [], none, none⟩,
     ⟨some 40, .faddr 0 (.t 10), [], [], none, none⟩,
     ⟨none, .store 1 (.t 40) (.t 39), [], [], none, none⟩])
 (R_c3)) (St.mk s o) Q =
 (demand (faddrV 0 (s 10)) (fun x1 =>
demand (loadV o none x1) (fun x2 =>
demand (faddrV 5 (s 12)) (fun x3 =>
demand (faddrV 7 x3) (fun x4 =>
demand (loadV o none x4) (fun x5 =>
demand (binV BinOp.add x2 x5) (fun x6 =>
demand (faddrV 0 (s 10)) (fun x7 =>
storeK x7 (cellsV x6) 1 o (fun m8 ob9 =>
wpB C I R_c3 (St.mk (look [(2, (s 2)), (8, (s 8)), (10, (s 10)), (12, (s 12)), (23, (s 23)), (24, (s 24)), (25, (s 25))]) (looko ([8, 10, 12, 17, 19].map fun n => (n, (upd o m8 (some ob9)) n)))) Q))))))))) := rfl

theorem g_book_Year_c5_sh {R_c4 : ACode} {C : Ctx} {I : Nat → Prop} {s : Nat → V} {o : Nat → Option Ob} {Q : Ex → St → Prop} : wpB C I (.seq (.seq (.region [2, 8, 10, 12, 23, 24, 25, 33] (some [8, 10, 12, 17, 19]) none
     [⟨some 29, .faddr 1 (.t 12), [], [], none, none⟩,
      ⟨some 30, .load none (.t 29), [], [], none, none⟩,
      ⟨some 31, .bin .quo (.t 30) (.c (.d (.int .i64 12))), [], [], none, none⟩,
      ⟨some 32, .mv (.t 2), [], [], none, none⟩,
      ⟨some 33, .bin .neq (.t 31) (.t 32), [], [], none, none⟩])
  (.cond (.t 33) (.exit 1)
   (.skip)))
 (R_c4)) (St.mk s o) Q =
 (demand (faddrV 1 (s 12)) (fun x1 =>
demand (loadV o none x1) (fun x2 =>
demand (binV BinOp.quo x2 (V.d (.int .i64 12))) (fun x3 =>
demand (binV BinOp.neq x3 (s 2)) (fun x4 =>
condK x4
 (Q (.exit 1) (St.mk (look [(2, (s 2)), (8, (s 8)), (10, (s 10)), (12, (s 12)), (23, (s 23)), (24, (s 24)), (25, (s 25)), (33, x4)]) (looko ([8, 10, 12, 17, 19].map fun n => (n, o n)))))
 (wpB C I R_c4 (St.mk (look [(2, (s 2)), (8, (s 8)), (10, (s 10)), (12, (s 12)), (23, (s 23)), (24, (s 24)), (25, (s 25)), (33, x4)]) (looko ([8, 10, 12, 17, 19].map fun n => (n, o n)))) Q)))))) := rfl

theorem g_book_Year_c6_sh {C : Ctx} {I : Nat → Prop} {s : Nat → V} {o : Nat → Option Ob} {Q : Ex → St → Prop} : wpB C I (.region [2, 8, 10, 23, 24, 25] (some [8, 10, 17, 19]) none
   [⟨some 73, .bin .add (.t 25) (.c (.d (.int .i64 1))), [], [], none, none⟩,
    ⟨some 25, .mv (.t 73), [], [], none, none⟩]) (St.mk s o) Q =
 (demand (binV BinOp.add (s 25) (V.d (.int .i64 1))) (fun x1 =>
Q .normal (St.mk (look [(2, (s 2)), (8, (s 8)), (10, (s 10)), (23, (s 23)), (24, (s 24)), (25, x1)]) (looko ([8, 10, 17, 19].map fun n => (n, o n)))))) := rfl

theorem g_book_Year_l0_sh {R_l0 : ACode} {R_c5 : ACode} {R_c6 : ACode} {C : Ctx} {I : Nat → Prop} {s : Nat → V} {o : Nat → Option Ob} {Q : Ex → St → Prop} (hL : R_l0 = .loop [2, 8, 10, 23, 24, 25] (some [8, 10, 17, 19]) (.seq (.region [2, 8, 10, 23, 24, 25, 26] (some [8, 10, 17, 19]) none
     [⟨some 26, .bin .lss (.t 25) (.t 24), [], [], none, none⟩])
  (.seq (.cond (.t 26) (.skip)
    (.exit 0))
   (.seq (.block 1 [2, 8, 10, 23, 24, 25] (some [8, 10, 17, 19]) (.seq (.region [2, 8, 10, 12, 23, 24, 25] (some [8, 10, 12, 17, 19]) none
         [⟨some 27, .iaddr 22 (.t 23) (.t 25), [], [], none, none⟩,
          ⟨some 28, .load (some 22) (.t 27), [], [], none, none⟩,
          ⟨some 12, .alloc 12 [.d (.int .i64 0), .d (.int .i64 0), .d (.int .i64 0), .d (.int .i64 0), .d (.int .i64 0), .cap0, .d (.int .i64 0), .d (.int .i64 0), .d (.int .i64 0), .d (.int .i64 0), .d (.int .i64 0), .d (.int .i64 0), .d (.int .i64 0), .d (.int .i64 0), .d (.int .i64 0), .d (.int .i64 0), .d (.int .i64 0), .d (.int .i64 0), .cap0, .cap0, .cap0, .cap0], [], [], none, none⟩,
          ⟨none, .store 22 (.t 12) (.t 28), [], [], none, none⟩])
      (R_c5)))
    (R_c6)))))
 (h : demand (binV BinOp.lss (s 25) (s 24)) (fun x1 =>
condK x1
 (demand (iaddrV (looko ([8, 10, 17, 19].map fun n => (n, o n))) 22 (s 23) (s 25)) (fun x2 =>
demand (loadV (looko ([8, 10, 17, 19].map fun n => (n, o n))) (some 22) x2) (fun x3 =>
(¬ I 12 ∧ Fresh (St.mk (upd (upd (look [(2, (s 2)), (8, (s 8)), (10, (s 10)), (23, (s 23)), (24, (s 24)), (25, (s 25)), (26, x1)]) 27 x2) 28 x3) (looko ([8, 10, 17, 19].map fun n => (n, o n)))) 12 (some 12) ∧ V.refsL 12 [V.d (.int .i64 0), V.d (.int .i64 0), V.d (.int .i64 0), V.d (.int .i64 0), V.d (.int .i64 0), V.cap0, V.d (.int .i64 0), V.d (.int .i64 0), V.d (.int .i64 0), V.d (.int .i64 0), V.d (.int .i64 0), V.d (.int .i64 0), V.d (.int .i64 0), V.d (.int .i64 0), V.d (.int .i64 0), V.d (.int .i64 0), V.d (.int .i64 0), V.d (.int .i64 0), V.cap0, V.cap0, V.cap0, V.cap0] = false ∧
storeK (V.ptr 12 0) (cellsV x3) 22 (upd (looko ([8, 10, 17, 19].map fun n => (n, o n))) 12 (some (Ob.box [V.d (.int .i64 0), V.d (.int .i64 0), V.d (.int .i64 0), V.d (.int .i64 0), V.d (.int .i64 0), V.cap0, V.d (.int .i64 0), V.d (.int .i64 0), V.d (.int .i64 0), V.d (.int .i64 0), V.d (.int .i64 0), V.d (.int .i64 0), V.d (.int .i64 0), V.d (.int .i64 0), V.d (.int .i64 0), V.d (.int .i64 0), V.d (.int .i64 0), V.d (.int .i64 0), V.cap0, V.cap0, V.cap0, V.cap0]))) (fun m4 ob5 =>
wpB C I R_c5 (St.mk (look [(2, (s 2)), (8, (s 8)), (10, (s 10)), (12, (V.ptr 12 0)), (23, (s 23)), (24, (s 24)), (25, (s 25))]) (looko ([8, 10, 12, 17, 19].map fun n => (n, (upd (upd (looko ([8, 10, 17, 19].map fun n => (n, o n))) 12 (some (Ob.box [V.d (.int .i64 0), V.d (.int .i64 0), V.d (.int .i64 0), V.d (.int .i64 0), V.d (.int .i64 0), V.cap0, V.d (.int .i64 0), V.d (.int .i64 0), V.d (.int .i64 0), V.d (.int .i64 0), V.d (.int .i64 0), V.d (.int .i64 0), V.d (.int .i64 0), V.d (.int .i64 0), V.d (.int .i64 0), V.d (.int .i64 0), V.d (.int .i64 0), V.d (.int .i64 0), V.cap0, V.cap0, V.cap0, V.cap0]))) m4 (some ob5)) n)))) (blockK 1 [2, 8, 10, 23, 24, 25] (some [8, 10, 17, 19]) (seqK (fun st => wpB C I R_c6 st (seqK (fun s => wpB C I R_l0 s Q) Q)) (seqK (fun s => wpB C I R_l0 s Q) Q))))))))
 (Q (.exit 0) (St.mk (look [(2, (s 2)), (8, (s 8)), (10, (s 10)), (23, (s 23)), (24, (s 24)), (25, (s 25)), (26, x1)]) (looko ([8, 10, 17, 19].map fun n => (n, o n))))))) : wpB C I R_l0 (St.mk s o) Q := w_loopC hL h

theorem g_book_Year_c7_sh {R_l0 : ACode} {C : Ctx} {I : Nat → Prop} {s : Nat → V} {o : Nat → Option Ob} {Q : Ex → St → Prop} : wpB C I (.block 0 [8, 10] (some [8, 10, 17, 19]) (R_l0)) (St.mk s o) Q =
 (wpB C I R_l0 (St.mk s o) (blockK 0 [8, 10] (some [8, 10, 17, 19]) Q)) := rfl

theorem g_book_Year_c8_sh {C : Ctx} {I : Nat → Prop} {s : Nat → V} {o : Nat → Option Ob} {Q : Ex → St → Prop} : wpB C I (.seq (.region [8] (some [8, 17, 19]) none
    [⟨some 74, .load (some 5) (.t 10), [], [], none, none⟩,
     ⟨none, .store 5 (.t 8) (.t 74), [], [], none, none⟩])
 (.ret)) (St.mk s o) Q =
 (demand (loadV o (some 5) (s 10)) (fun x1 =>
storeK (s 8) (cellsV x1) 5 o (fun m2 ob3 =>
Q .ret (St.mk (look [(8, (s 8))]) (looko ([8, 17, 19].map fun n => (n, (upd o m2 (some ob3)) n))))))) := rfl

theorem g_book_Year_c9_sh {R_c7 : ACode} {R_c8 : ACode} {C : Ctx} {I : Nat → Prop} {s : Nat → V} {o : Nat → Option Ob} {Q : Ex → St → Prop} : wpB C I (.seq (.seq (.region [2, 8, 10, 23, 24, 25] (some [8, 10, 17, 19]) none
     [⟨some 21, .load (some 1) (.t 4), [], [], none, none⟩,
      ⟨some 22, .mv (.t 1), [], [], none, none⟩,
      ⟨some 23, .call 18 [(.t 21), (.t 22)], [], [], none, none⟩,
      ⟨some 24, .len (.t 23), [], [], none, none⟩,
      ⟨some 25, .mv (.c (.d (.int .i64 0))), [], [], none, none⟩])
  (R_c7))
 (R_c8)) (St.mk s o) Q =
 (demand (loadV o (some 1) (s 4)) (fun x1 =>
callK C I (St.mk (upd (upd s 21 x1) 22 (s 1)) o) (some 23) 18 [x1, (s 1)] (fun r2 or2 =>
demand (lenV or2 r2) (fun x3 =>
wpB C I R_c7 (St.mk (look [(2, (s 2)), (8, (s 8)), (10, (s 10)), (23, r2), (24, x3), (25, (V.d (.int .i64 0)))]) (looko ([8, 10, 17, 19].map fun n => (n, or2 n)))) (seqK (fun st => wpB C I R_c8 st Q) Q))))) := rfl

theorem g_book_Year_c10_sh {R_i1 : List Nat} {R_t17 : Tr} {R_c9 : ACode} {C : Ctx} {I : Nat → Prop} {s : Nat → V} {o : Nat → Option Ob} {Q : Ex → St → Prop} : wpB C I (.seq (.region [1, 2, 4, 8, 10] (some [4, 8, 10, 17, 19]) (some (0 :: R_i1, R_t17)) g_book_Year.a0)
 (R_c9)) (St.mk s o) Q =
 ((s 16) = V.undef ∧ (quietV o ((s 9) :: [(s 9)]) ∧
drawB C I g_book_Year.a0 R_i1 R_t17 (St.mk (upd s 16 (s 9)) o) (fun st => (seqK (fun st => wpB C I R_c9 st Q) Q) .normal (St.trim st [1, 2, 4, 8, 10] (some [4, 8, 10, 17, 19]))))) := rfl

theorem g_book_Year_code_sh {R_c10 : ACode} {C : Ctx} {I : Nat → Prop} {s : Nat → V} {o : Nat → Option Ob} {Q : Ex → St → Prop} : wpB C I (.seq (.region [1, 2, 3, 4, 8] (some [4, 8, 17, 19]) none
    [⟨some 4, .box 4 1 (.t 0), [], [], none, none⟩,
     ⟨some 8, .alloc 8 [.d (.int .i64 0), .d (.int .i64 0), .d (.int .i64 0), .cap0, .cap0], [], [], none, none⟩])
 (.seq (.region [1, 2, 4, 8, 9] (some [4, 8, 17, 19]) none
     [⟨some 13, .mv (.t 3), [], [], none, none⟩,
      ⟨some 14, .mm true [(.t 13), (.c (.d (.int .i64 0)))], [], [], none, none⟩,
      ⟨some 15, .mm false [(.t 14), (.c (.d (.int .i64 6)))], [], [], none, none⟩,
      ⟨some 9, .mv (.t 15), [], [], none, none⟩])
  (R_c10))) (St.mk s o) Q =
 (lstK (cellsV (s 0)) (fun c1 => c1.length = 1 ∧ ¬ I 4 ∧ Fresh (St.mk s o) 4 (some 4) ∧ V.refsL 4 c1 = false ∧
(¬ I 8 ∧ Fresh (St.mk (upd s 4 (V.ptr 4 0)) (upd o 4 (some (Ob.box c1)))) 8 (some 8) ∧ V.refsL 8 [V.d (.int .i64 0), V.d (.int .i64 0), V.d (.int .i64 0), V.cap0, V.cap0] = false ∧
demand (mmV true [(s 3), (V.d (.int .i64 0))]) (fun x2 =>
demand (mmV false [x2, (V.d (.int .i64 6))]) (fun x3 =>
wpB C I R_c10 (St.mk (look [(1, (s 1)), (2, (s 2)), (4, (V.ptr 4 0)), (8, (V.ptr 8 0)), (9, x3)]) (looko ([4, 8, 17, 19].map fun n => (n, (upd (upd o 4 (some (Ob.box c1))) 8 (some (Ob.box [V.d (.int .i64 0), V.d (.int .i64 0), V.d (.int .i64 0), V.cap0, V.cap0]))) n)))) Q))))) := rfl


end Pay
