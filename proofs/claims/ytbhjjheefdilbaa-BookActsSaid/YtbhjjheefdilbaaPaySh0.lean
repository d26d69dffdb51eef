/- What the code of the functions comes to, without slots: an equation for each part; no condition. -/
import Derived.Test.YtbhjjheefdilbaaPayU
import Derived.Test.YtbhjjheefdilbaaPayBkCode
set_option maxRecDepth 20000
set_option maxHeartbeats 400000
set_option linter.unusedVariables false
namespace Pay
open Go
theorem g_law17_BookActs_o1_sh {C : Ctx} {I : Nat → Prop} {s : Nat → V} {o : Nat → Option Ob} {K : St → Prop} : opsB C I [⟨some 38, .pick (.t 35) (.c (.d (.bool true))) (.t 37), [], [], none, none⟩] (St.mk s o) K =
 (demand (pickV (s 35) (V.d (.bool true)) (s 37)) (fun x1 =>
K (St.mk (upd s 38 x1) o))) := rfl

theorem g_law17_BookActs_o0_sh {R_o1 : List AOper} {C : Ctx} {I : Nat → Prop} {s : Nat → V} {o : Nat → Option Ob} {K : St → Prop} : opsB C I (⟨some 36, .mv (.t 14), [], [], (some (2, 35, false)), none⟩ ::
     ⟨some 37, .un .not (.t 36), [], [], (some (2, 35, false)), (some ([2, 3, 4, 5, 6, 11, 35, 37], (some [5, 6])))⟩ ::
     R_o1) (St.mk s o) K =
 (guardK (s 35) false
 (demand (unV UnOp.not (s 14)) (fun x1 =>
opsB C I R_o1 (St.mk (look [(2, (s 2)), (3, (s 3)), (4, (s 4)), (5, (s 5)), (6, (s 6)), (11, (s 11)), (35, (V.d (D.bool false))), (37, x1)]) (looko ([5, 6].map fun n => (n, o n)))) K))
 (opsB C I R_o1 (St.mk (look [(2, (s 2)), (3, (s 3)), (4, (s 4)), (5, (s 5)), (6, (s 6)), (11, (s 11)), (35, (V.d (D.bool true))), (37, (V.tup []))]) (looko ([5, 6].map fun n => (n, o n)))) K)
 (opsB C I R_o1 (St.mk (look [(2, (s 2)), (3, (s 3)), (4, (s 4)), (5, (s 5)), (6, (s 6)), (11, (s 11)), (35, (V.tup [])), (37, (V.tup []))]) (looko ([5, 6].map fun n => (n, o n)))) K)) := rfl

theorem g_law17_BookActs_c0_sh {C : Ctx} {I : Nat → Prop} {s : Nat → V} {o : Nat → Option Ob} {Q : Ex → St → Prop} : wpB C I (.cond (.t 38) (.seq (.region [10] (some []) none
     [⟨some 39, .call 4 [], [], [], none, none⟩,
      ⟨some 10, .mv (.t 39), [], [], none, none⟩])
  (.ret))
 (.skip)) (St.mk s o) Q =
 (condK (s 38)
 (callK C I (St.mk s o) (some 39) 4 [] (fun r1 or1 =>
Q .ret (St.mk (look [(10, r1)]) (looko ([].map fun n => (n, or1 n))))))
 (Q .normal (St.mk s o))) := rfl

theorem g_law17_BookActs_o3_sh {C : Ctx} {I : Nat → Prop} {s : Nat → V} {o : Nat → Option Ob} {K : St → Prop} : opsB C I [⟨some 69, .pick (.t 59) (.c (.d (.bool true))) (.t 68), [], [], none, none⟩] (St.mk s o) K =
 (demand (pickV (s 59) (V.d (.bool true)) (s 68)) (fun x1 =>
K (St.mk (upd s 69 x1) o))) := rfl

theorem g_law17_BookActs_o2_sh {R_o3 : List AOper} {C : Ctx} {I : Nat → Prop} {s : Nat → V} {o : Nat → Option Ob} {K : St → Prop} : opsB C I (⟨some 60, .load (some 1) (.t 5), [], [], (some (7, 59, false)), none⟩ ::
     ⟨some 61, .mv (.t 3), [], [], (some (7, 59, false)), none⟩ ::
     ⟨some 62, .mv (.t 4), [], [], (some (7, 59, false)), none⟩ ::
     ⟨some 63, .call 8 [(.t 60), (.t 61), (.t 62)], [], [], (some (7, 59, false)), none⟩ ::
     ⟨some 64, .mv (.t 11), [], [], (some (7, 59, false)), none⟩ ::
     ⟨some 65, .mv (.t 3), [], [], (some (7, 59, false)), none⟩ ::
     ⟨some 66, .mv (.t 4), [], [], (some (7, 59, false)), none⟩ ::
     ⟨some 67, .call 11 [(.t 64), (.t 65), (.t 66)], [], [], (some (7, 59, false)), none⟩ ::
     ⟨some 68, .bin .neq (.t 63) (.t 67), [], [], (some (7, 59, false)), (some ([2, 6, 11, 15, 16, 17, 18, 59, 68], (some [6, 15, 17])))⟩ ::
     R_o3) (St.mk s o) K =
 (guardK (s 59) false
 (demand (loadV o (some 1) (s 5)) (fun x1 =>
callK C I (St.mk (upd (upd (upd (upd (upd (upd (upd s 59 (V.d (D.bool false))) 60 x1) 59 (V.d (D.bool false))) 61 (s 3)) 59 (V.d (D.bool false))) 62 (s 4)) 59 (V.d (D.bool false))) o) (some 63) 8 [x1, (s 3), (s 4)] (fun r2 or2 =>
callK C I (St.mk (upd (upd (upd (upd (upd (upd (upd (upd (upd (upd (upd (upd (upd (upd (upd s 59 (V.d (D.bool false))) 60 x1) 59 (V.d (D.bool false))) 61 (s 3)) 59 (V.d (D.bool false))) 62 (s 4)) 59 (V.d (D.bool false))) 63 r2) 59 (V.d (D.bool false))) 64 (s 11)) 59 (V.d (D.bool false))) 65 (s 3)) 59 (V.d (D.bool false))) 66 (s 4)) 59 (V.d (D.bool false))) or2) (some 67) 11 [(s 11), (s 3), (s 4)] (fun r3 or3 =>
demand (binV BinOp.neq r2 r3) (fun x4 =>
opsB C I R_o3 (St.mk (look [(2, (s 2)), (6, (s 6)), (11, (s 11)), (15, (s 15)), (16, (s 16)), (17, (s 17)), (18, (s 18)), (59, (V.d (D.bool false))), (68, x4)]) (looko ([6, 15, 17].map fun n => (n, or3 n)))) K)))))
 (opsB C I R_o3 (St.mk (look [(2, (s 2)), (6, (s 6)), (11, (s 11)), (15, (s 15)), (16, (s 16)), (17, (s 17)), (18, (s 18)), (59, (V.d (D.bool true))), (68, (V.tup []))]) (looko ([6, 15, 17].map fun n => (n, o n)))) K)
 (opsB C I R_o3 (St.mk (look [(2, (s 2)), (6, (s 6)), (11, (s 11)), (15, (s 15)), (16, (s 16)), (17, (s 17)), (18, (s 18)), (59, (V.tup [])), (68, (V.tup []))]) (looko ([6, 15, 17].map fun n => (n, o n)))) K)) := rfl

theorem g_law17_BookActs_c1_sh {C : Ctx} {I : Nat → Prop} {s : Nat → V} {o : Nat → Option Ob} {Q : Ex → St → Prop} : wpB C I (.cond (.t 69) (.seq (.region [10] (some []) none
     [⟨some 10, .mv (.c (.d (.bool false))), [], [], none, none⟩])
  (.ret))
 (.skip)) (St.mk s o) Q =
 (condK (s 69)
 (Q .ret (St.mk (look [(10, (V.d (.bool false)))]) (looko ([].map fun n => (n, o n)))))
 (Q .normal (St.mk s o))) := rfl

theorem g_law17_BookActs_t7_sh {C : Ctx} {I : Nat → Prop} {s : Nat → V} {o : Nat → Option Ob} {K : St → Prop} : treeB C I g_law17_BookActs.a4 (.one 7 .done) (St.mk s o) K =
 ((([] : List Nat) = [] ∧ (K (St.mk (upd s 19 (s 76)) o)))) := rfl

theorem g_law17_BookActs_t8_sh {R_t7 : Tr} {C : Ctx} {I : Nat → Prop} {s : Nat → V} {o : Nat → Option Ob} {K : St → Prop} : treeB C I g_law17_BookActs.a4 (.one 6 R_t7) (St.mk s o) K =
 ((([] : List Nat) = [] ∧ ((lstK (readD o (s 75)) (fun ys1 => (∀ e ∈ ys1, e.length = 22) ∧ appK (s 72)
 (ys1.length * 256 ≤ 140737488355328 ∧ ys1.length ≤ 140737488355328 ∧
treeB C I g_law17_BookActs.a4 R_t7 (St.mk (upd s 76 (V.d (D.sl ys1))) o) K)
 (fun m2 => ¬ I m2 ∧ rowK (o m2) (fun z3 es4 => z3 = 22 ∧ (es4.length + ys1.length) * 256 ≤ 140737488355328 ∧ es4.length + ys1.length ≤ 140737488355328 ∧
freeK (St.mk (upd (fun t => scrubV m2 (s t)) 76 (V.own m2)) (upd (fun n => (o n).map (Ob.scrub m2)) m2 (some (Ob.row 22 (es4 ++ ys1))))) m2 (fun st5 =>
treeB C I g_law17_BookActs.a4 R_t7 (St.mk st5.s st5.o) K))))) ∧ ∀ m, (s 72) = .own m → ∀ n cs, o n = some (.box cs) → V.refsL m cs = false))) := rfl

theorem g_law17_BookActs_t9_sh {R_t8 : Tr} {C : Ctx} {I : Nat → Prop} {s : Nat → V} {o : Nat → Option Ob} {K : St → Prop} : treeB C I g_law17_BookActs.a4 (.one 5 R_t8) (St.mk s o) K =
 ((([] : List Nat) = [] ∧ (lstK (partsN 22 [(s 74)]) (fun es1 =>
treeB C I g_law17_BookActs.a4 R_t8 (St.mk (upd s 75 (V.d (D.sl es1))) o) K)))) := rfl

theorem g_law17_BookActs_t10_sh {R_t9 : Tr} {C : Ctx} {I : Nat → Prop} {s : Nat → V} {o : Nat → Option Ob} {K : St → Prop} : treeB C I g_law17_BookActs.a4 (.one 4 R_t9) (St.mk s o) K =
 ((([] : List Nat) = [] ∧ (callE C I (St.mk s o) (some 74) 12 [(s 73)] (fun r1 or1 =>
treeB C I g_law17_BookActs.a4 R_t9 (St.mk (upd s 74 r1) or1) K)))) := rfl

theorem g_law17_BookActs_t11_sh {R_t10 : Tr} {C : Ctx} {I : Nat → Prop} {s : Nat → V} {o : Nat → Option Ob} {K : St → Prop} : treeB C I g_law17_BookActs.a4 (.one 2 R_t10) (St.mk s o) K =
 ((([] : List Nat) = [] ∧ ((lstK (readD o (s 71)) (fun ys1 => (∀ e ∈ ys1, e.length = 22) ∧ appK (s 70)
 (ys1.length * 256 ≤ 140737488355328 ∧ ys1.length ≤ 140737488355328 ∧ ¬ I 72 ∧ Fresh (St.mk s o) 72 (some 72) ∧
treeB C I g_law17_BookActs.a4 R_t10 (St.mk (upd s 72 (V.own 72)) (upd o 72 (some (Ob.row 22 ys1)))) K)
 (fun m2 => ¬ I m2 ∧ rowK (o m2) (fun z3 es4 => z3 = 22 ∧ (es4.length + ys1.length) * 256 ≤ 140737488355328 ∧ es4.length + ys1.length ≤ 140737488355328 ∧
treeB C I g_law17_BookActs.a4 R_t10 (St.mk (upd (fun t => scrubV m2 (s t)) 72 (V.own m2)) (upd (fun n => (o n).map (Ob.scrub m2)) m2 (some (Ob.row 22 (es4 ++ ys1))))) K)))) ∧ ∀ m, (s 70) = .own m → ∀ n cs, o n = some (.box cs) → V.refsL m cs = false))) := rfl

theorem g_law17_BookActs_i6_sh {R_t11 : Tr} {C : Ctx} {I : Nat → Prop} {s : Nat → V} {o : Nat → Option Ob} {K : St → Prop} : drawB C I g_law17_BookActs.a4 (3 :: []) R_t11 (St.mk s o) K =
 ((s 73) = V.undef ∧ (demand (loadV o (some 22) (s 6)) (fun x1 => quietV o (x1 :: [(s 6)]) ∧
treeB C I g_law17_BookActs.a4 R_t11 (St.mk (upd s 73 x1) o) K))) := rfl

theorem g_law17_BookActs_i5_sh {R_i6 : List Nat} {R_t11 : Tr} {C : Ctx} {I : Nat → Prop} {s : Nat → V} {o : Nat → Option Ob} {K : St → Prop} : drawB C I g_law17_BookActs.a4 (1 :: R_i6) R_t11 (St.mk s o) K =
 ((s 71) = V.undef ∧ (quietV o ((s 11) :: [(s 11)]) ∧
drawB C I g_law17_BookActs.a4 R_i6 R_t11 (St.mk (upd s 71 (s 11)) o) K)) := rfl

theorem g_law17_BookActs_o13_sh {C : Ctx} {I : Nat → Prop} {s : Nat → V} {o : Nat → Option Ob} {K : St → Prop} : opsB C I [⟨some 110, .pick (.t 105) (.c (.d (.bool true))) (.t 109), [], [], none, none⟩,
     ⟨some 102, .mv (.t 110), [], [], none, none⟩] (St.mk s o) K =
 (demand (pickV (s 105) (V.d (.bool true)) (s 109)) (fun x1 =>
K (St.mk (upd (upd s 110 x1) 102 x1) o))) := rfl

theorem g_law17_BookActs_o12_sh {R_o13 : List AOper} {C : Ctx} {I : Nat → Prop} {s : Nat → V} {o : Nat → Option Ob} {K : St → Prop} : opsB C I (⟨some 106, .mv (.t 2), [], [], (some (2, 105, false)), none⟩ ::
     ⟨some 107, .mv (.t 11), [], [], (some (2, 105, false)), none⟩ ::
     ⟨some 108, .len (.t 107), [], [], (some (2, 105, false)), none⟩ ::
     ⟨some 109, .bin .geq (.t 106) (.t 108), [], [], (some (2, 105, false)), (some ([2, 11, 17, 18, 105, 109], (some [17])))⟩ ::
     R_o13) (St.mk s o) K =
 (guardK (s 105) false
 (demand (lenV o (s 11)) (fun x1 =>
demand (binV BinOp.geq (s 2) x1) (fun x2 =>
opsB C I R_o13 (St.mk (look [(2, (s 2)), (11, (s 11)), (17, (s 17)), (18, (s 18)), (105, (V.d (D.bool false))), (109, x2)]) (looko ([17].map fun n => (n, o n)))) K)))
 (opsB C I R_o13 (St.mk (look [(2, (s 2)), (11, (s 11)), (17, (s 17)), (18, (s 18)), (105, (V.d (D.bool true))), (109, (V.tup []))]) (looko ([17].map fun n => (n, o n)))) K)
 (opsB C I R_o13 (St.mk (look [(2, (s 2)), (11, (s 11)), (17, (s 17)), (18, (s 18)), (105, (V.tup [])), (109, (V.tup []))]) (looko ([17].map fun n => (n, o n)))) K)) := rfl

theorem g_law17_BookActs_o17_sh {C : Ctx} {I : Nat → Prop} {s : Nat → V} {o : Nat → Option Ob} {K : St → Prop} : opsB C I [⟨some 120, .pick (.t 118) (.t 119) (.c (.d (.bool false))), [], [], none, none⟩,
     ⟨some 10, .mv (.t 120), [], [], none, none⟩] (St.mk s o) K =
 (demand (pickV (s 118) (s 119) (V.d (.bool false))) (fun x1 =>
K (St.mk (upd (upd s 120 x1) 10 x1) o))) := rfl

theorem g_law17_BookActs_o16_sh {R_o17 : List AOper} {C : Ctx} {I : Nat → Prop} {s : Nat → V} {o : Nat → Option Ob} {K : St → Prop} : opsB C I (⟨some 119, .call 4 [], [], [], (some (7, 118, true)), (some ([118, 119], (some [])))⟩ ::
     R_o17) (St.mk s o) K =
 (guardK (s 118) true
 (callK C I (St.mk (upd s 118 (V.d (D.bool true))) o) (some 119) 4 [] (fun r1 or1 =>
opsB C I R_o17 (St.mk (look [(118, (V.d (D.bool true))), (119, r1)]) (looko ([].map fun n => (n, or1 n)))) K))
 (opsB C I R_o17 (St.mk (look [(118, (V.d (D.bool false))), (119, (V.tup []))]) (looko ([].map fun n => (n, o n)))) K)
 (opsB C I R_o17 (St.mk (look [(118, (V.tup [])), (119, (V.tup []))]) (looko ([].map fun n => (n, o n)))) K)) := rfl

theorem g_law17_BookActs_o15_sh {R_o16 : List AOper} {C : Ctx} {I : Nat → Prop} {s : Nat → V} {o : Nat → Option Ob} {K : St → Prop} : opsB C I (⟨some 117, .pick (.t 113) (.t 116) (.c (.d (.bool false))), [], [], none, none⟩ ::
     ⟨some 118, .mv (.t 117), [], [], none, (some ([118], (some [])))⟩ ::
     R_o16) (St.mk s o) K =
 (demand (pickV (s 113) (s 116) (V.d (.bool false))) (fun x1 =>
opsB C I R_o16 (St.mk (look [(118, x1)]) (looko ([].map fun n => (n, o n)))) K)) := rfl

theorem g_law17_BookActs_o14_sh {R_o15 : List AOper} {C : Ctx} {I : Nat → Prop} {s : Nat → V} {o : Nat → Option Ob} {K : St → Prop} : opsB C I (⟨some 114, .load (some 1) (.t 17), [], [], (some (2, 113, true)), none⟩ ::
     ⟨some 115, .mv (.t 11), [], [], (some (2, 113, true)), none⟩ ::
     ⟨some 116, .call 13 [(.t 114), (.t 115)], [], [], (some (2, 113, true)), (some ([113, 116], (some [])))⟩ ::
     R_o15) (St.mk s o) K =
 (guardK (s 113) true
 (demand (loadV o (some 1) (s 17)) (fun x1 =>
callK C I (St.mk (upd (upd (upd (upd (upd s 113 (V.d (D.bool true))) 114 x1) 113 (V.d (D.bool true))) 115 (s 11)) 113 (V.d (D.bool true))) o) (some 116) 13 [x1, (s 11)] (fun r2 or2 =>
opsB C I R_o15 (St.mk (look [(113, (V.d (D.bool true))), (116, r2)]) (looko ([].map fun n => (n, or2 n)))) K)))
 (opsB C I R_o15 (St.mk (look [(113, (V.d (D.bool false))), (116, (V.tup []))]) (looko ([].map fun n => (n, o n)))) K)
 (opsB C I R_o15 (St.mk (look [(113, (V.tup [])), (116, (V.tup []))]) (looko ([].map fun n => (n, o n)))) K)) := rfl

theorem g_law17_BookActs_c2_sh {C : Ctx} {I : Nat → Prop} {s : Nat → V} {o : Nat → Option Ob} {Q : Ex → St → Prop} : wpB C I (.ret) (St.mk s o) Q =
 (Q .ret (St.mk s o)) := rfl

theorem g_law17_BookActs_o21_sh {C : Ctx} {I : Nat → Prop} {s : Nat → V} {o : Nat → Option Ob} {K : St → Prop} : opsB C I [⟨some 137, .pick (.t 135) (.t 136) (.c (.d (.bool false))), [], [], none, none⟩,
     ⟨some 10, .mv (.t 137), [], [], none, none⟩] (St.mk s o) K =
 (demand (pickV (s 135) (s 136) (V.d (.bool false))) (fun x1 =>
K (St.mk (upd (upd s 137 x1) 10 x1) o))) := rfl

theorem g_law17_BookActs_o20_sh {R_o21 : List AOper} {C : Ctx} {I : Nat → Prop} {s : Nat → V} {o : Nat → Option Ob} {K : St → Prop} : opsB C I (⟨some 136, .call 4 [], [], [], (some (7, 135, true)), (some ([135, 136], (some [])))⟩ ::
     R_o21) (St.mk s o) K =
 (guardK (s 135) true
 (callK C I (St.mk (upd s 135 (V.d (D.bool true))) o) (some 136) 4 [] (fun r1 or1 =>
opsB C I R_o21 (St.mk (look [(135, (V.d (D.bool true))), (136, r1)]) (looko ([].map fun n => (n, or1 n)))) K))
 (opsB C I R_o21 (St.mk (look [(135, (V.d (D.bool false))), (136, (V.tup []))]) (looko ([].map fun n => (n, o n)))) K)
 (opsB C I R_o21 (St.mk (look [(135, (V.tup [])), (136, (V.tup []))]) (looko ([].map fun n => (n, o n)))) K)) := rfl

theorem g_law17_BookActs_o19_sh {R_o20 : List AOper} {C : Ctx} {I : Nat → Prop} {s : Nat → V} {o : Nat → Option Ob} {K : St → Prop} : opsB C I (⟨some 134, .pick (.t 130) (.t 133) (.c (.d (.bool false))), [], [], none, none⟩ ::
     ⟨some 135, .mv (.t 134), [], [], none, (some ([135], (some [])))⟩ ::
     R_o20) (St.mk s o) K =
 (demand (pickV (s 130) (s 133) (V.d (.bool false))) (fun x1 =>
opsB C I R_o20 (St.mk (look [(135, x1)]) (looko ([].map fun n => (n, o n)))) K)) := rfl

theorem g_law17_BookActs_o18_sh {R_o19 : List AOper} {C : Ctx} {I : Nat → Prop} {s : Nat → V} {o : Nat → Option Ob} {K : St → Prop} : opsB C I (⟨some 131, .load (some 1) (.t 17), [], [], (some (2, 130, true)), none⟩ ::
     ⟨some 132, .mv (.t 11), [], [], (some (2, 130, true)), none⟩ ::
     ⟨some 133, .call 13 [(.t 131), (.t 132)], [], [], (some (2, 130, true)), (some ([130, 133], (some [])))⟩ ::
     R_o19) (St.mk s o) K =
 (guardK (s 130) true
 (demand (loadV o (some 1) (s 17)) (fun x1 =>
callK C I (St.mk (upd (upd (upd (upd (upd s 130 (V.d (D.bool true))) 131 x1) 130 (V.d (D.bool true))) 132 (s 11)) 130 (V.d (D.bool true))) o) (some 133) 13 [x1, (s 11)] (fun r2 or2 =>
opsB C I R_o19 (St.mk (look [(130, (V.d (D.bool true))), (133, r2)]) (looko ([].map fun n => (n, or2 n)))) K)))
 (opsB C I R_o19 (St.mk (look [(130, (V.d (D.bool false))), (133, (V.tup []))]) (looko ([].map fun n => (n, o n)))) K)
 (opsB C I R_o19 (St.mk (look [(130, (V.tup [])), (133, (V.tup []))]) (looko ([].map fun n => (n, o n)))) K)) := rfl

theorem g_law17_BookActs_c3_sh {C : Ctx} {I : Nat → Prop} {s : Nat → V} {o : Nat → Option Ob} {Q : Ex → St → Prop} : wpB C I (.ret) (St.mk s o) Q =
 (Q .ret (St.mk s o)) := rfl

theorem g_law17_BookActs_o25_sh {C : Ctx} {I : Nat → Prop} {s : Nat → V} {o : Nat → Option Ob} {K : St → Prop} : opsB C I [⟨some 152, .pick (.t 150) (.t 151) (.c (.d (.bool false))), [], [], none, none⟩,
     ⟨some 10, .mv (.t 152), [], [], none, none⟩] (St.mk s o) K =
 (demand (pickV (s 150) (s 151) (V.d (.bool false))) (fun x1 =>
K (St.mk (upd (upd s 152 x1) 10 x1) o))) := rfl

theorem g_law17_BookActs_o24_sh {R_o25 : List AOper} {C : Ctx} {I : Nat → Prop} {s : Nat → V} {o : Nat → Option Ob} {K : St → Prop} : opsB C I (⟨some 151, .call 4 [], [], [], (some (7, 150, true)), (some ([150, 151], (some [])))⟩ ::
     R_o25) (St.mk s o) K =
 (guardK (s 150) true
 (callK C I (St.mk (upd s 150 (V.d (D.bool true))) o) (some 151) 4 [] (fun r1 or1 =>
opsB C I R_o25 (St.mk (look [(150, (V.d (D.bool true))), (151, r1)]) (looko ([].map fun n => (n, or1 n)))) K))
 (opsB C I R_o25 (St.mk (look [(150, (V.d (D.bool false))), (151, (V.tup []))]) (looko ([].map fun n => (n, o n)))) K)
 (opsB C I R_o25 (St.mk (look [(150, (V.tup [])), (151, (V.tup []))]) (looko ([].map fun n => (n, o n)))) K)) := rfl

theorem g_law17_BookActs_o23_sh {R_o24 : List AOper} {C : Ctx} {I : Nat → Prop} {s : Nat → V} {o : Nat → Option Ob} {K : St → Prop} : opsB C I (⟨some 149, .pick (.t 145) (.t 148) (.c (.d (.bool false))), [], [], none, none⟩ ::
     ⟨some 150, .mv (.t 149), [], [], none, (some ([150], (some [])))⟩ ::
     R_o24) (St.mk s o) K =
 (demand (pickV (s 145) (s 148) (V.d (.bool false))) (fun x1 =>
opsB C I R_o24 (St.mk (look [(150, x1)]) (looko ([].map fun n => (n, o n)))) K)) := rfl

theorem g_law17_BookActs_o22_sh {R_o23 : List AOper} {C : Ctx} {I : Nat → Prop} {s : Nat → V} {o : Nat → Option Ob} {K : St → Prop} : opsB C I (⟨some 146, .load (some 1) (.t 17), [], [], (some (2, 145, true)), none⟩ ::
     ⟨some 147, .mv (.t 11), [], [], (some (2, 145, true)), none⟩ ::
     ⟨some 148, .call 13 [(.t 146), (.t 147)], [], [], (some (2, 145, true)), (some ([145, 148], (some [])))⟩ ::
     R_o23) (St.mk s o) K =
 (guardK (s 145) true
 (demand (loadV o (some 1) (s 17)) (fun x1 =>
callK C I (St.mk (upd (upd (upd (upd (upd s 145 (V.d (D.bool true))) 146 x1) 145 (V.d (D.bool true))) 147 (s 11)) 145 (V.d (D.bool true))) o) (some 148) 13 [x1, (s 11)] (fun r2 or2 =>
opsB C I R_o23 (St.mk (look [(145, (V.d (D.bool true))), (148, r2)]) (looko ([].map fun n => (n, or2 n)))) K)))
 (opsB C I R_o23 (St.mk (look [(145, (V.d (D.bool false))), (148, (V.tup []))]) (looko ([].map fun n => (n, o n)))) K)
 (opsB C I R_o23 (St.mk (look [(145, (V.tup [])), (148, (V.tup []))]) (looko ([].map fun n => (n, o n)))) K)) := rfl

theorem g_law17_BookActs_c4_sh {C : Ctx} {I : Nat → Prop} {s : Nat → V} {o : Nat → Option Ob} {Q : Ex → St → Prop} : wpB C I (.ret) (St.mk s o) Q =
 (Q .ret (St.mk s o)) := rfl

theorem g_law17_BookActs_c5_sh {R_o14 : List AOper} {R_c2 : ACode} {R_o18 : List AOper} {R_c3 : ACode} {R_o22 : List AOper} {R_c4 : ACode} {C : Ctx} {I : Nat → Prop} {s : Nat → V} {o : Nat → Option Ob} {Q : Ex → St → Prop} : wpB C I (.cond (.t 102) (.seq (.region [10] (some []) none
     (⟨some 111, .mv (.t 18), [], [], none, none⟩ ::
      ⟨some 112, .bin .eql (.t 111) (.c (.d (.int .i64 5))), [], [], none, none⟩ ::
      ⟨some 113, .mv (.t 112), [], [], none, (some ([11, 17, 113], (some [17])))⟩ ::
      R_o14))
  (R_c2))
 (.seq (.region [2, 11, 17, 18, 121] (some [17]) none
     [⟨some 122, .mv (.t 11), [], [], none, none⟩,
      ⟨some 123, .mv (.t 2), [], [], none, none⟩,
      ⟨some 124, .iaddr 22 (.t 122) (.t 123), [], [], none, none⟩,
      ⟨some 125, .faddr 4 (.t 124), [], [], none, none⟩,
      ⟨some 126, .load none (.t 125), [], [], none, none⟩,
      ⟨some 127, .bin .neq (.t 126) (.c (.d (.int .i64 0))), [], [], none, none⟩,
      ⟨some 121, .mv (.t 127), [], [], none, none⟩])
  (.cond (.t 121) (.seq (.region [10] (some []) none
       (⟨some 128, .mv (.t 18), [], [], none, none⟩ ::
        ⟨some 129, .bin .eql (.t 128) (.c (.d (.int .i64 1))), [], [], none, none⟩ ::
        ⟨some 130, .mv (.t 129), [], [], none, (some ([11, 17, 130], (some [17])))⟩ ::
        R_o18))
    (R_c3))
   (.seq (.region [2, 11, 17, 18, 138] (some [17]) none
       [⟨some 139, .mv (.t 11), [], [], none, none⟩,
        ⟨some 140, .mv (.t 2), [], [], none, none⟩,
        ⟨some 141, .call 10 [(.t 139), (.t 140)], [], [], none, none⟩,
        ⟨some 142, .un .not (.t 141), [], [], none, none⟩,
        ⟨some 138, .mv (.t 142), [], [], none, none⟩])
    (.cond (.t 138) (.seq (.region [10] (some []) none
         (⟨some 143, .mv (.t 18), [], [], none, none⟩ ::
          ⟨some 144, .bin .eql (.t 143) (.c (.d (.int .i64 6))), [], [], none, none⟩ ::
          ⟨some 145, .mv (.t 144), [], [], none, (some ([11, 17, 145], (some [17])))⟩ ::
          R_o22))
      (R_c4))
     (.skip)))))) (St.mk s o) Q =
 (condK (s 102)
 (demand (binV BinOp.eql (s 18) (V.d (.int .i64 5))) (fun x1 =>
opsB C I R_o14 (St.mk (look [(11, (s 11)), (17, (s 17)), (113, x1)]) (looko ([17].map fun n => (n, o n)))) (fun st => (seqK (fun st => wpB C I R_c2 st Q) Q) .normal (St.trim st [10] (some [])))))
 (demand (iaddrV o 22 (s 11) (s 2)) (fun x2 =>
demand (faddrV 4 x2) (fun x3 =>
demand (loadV o none x3) (fun x4 =>
demand (binV BinOp.neq x4 (V.d (.int .i64 0))) (fun x5 =>
condK x5
 (demand (binV BinOp.eql (s 18) (V.d (.int .i64 1))) (fun x6 =>
opsB C I R_o18 (St.mk (look [(11, (s 11)), (17, (s 17)), (130, x6)]) (looko ([17].map fun n => (n, o n)))) (fun st => (seqK (fun st => wpB C I R_c3 st Q) Q) .normal (St.trim st [10] (some [])))))
 (callK C I (St.mk (upd (upd (look [(2, (s 2)), (11, (s 11)), (17, (s 17)), (18, (s 18)), (121, x5)]) 139 (s 11)) 140 (s 2)) (looko ([17].map fun n => (n, o n)))) (some 141) 10 [(s 11), (s 2)] (fun r7 or7 =>
demand (unV UnOp.not r7) (fun x8 =>
condK x8
 (demand (binV BinOp.eql (s 18) (V.d (.int .i64 6))) (fun x9 =>
opsB C I R_o22 (St.mk (look [(11, (s 11)), (17, (s 17)), (145, x9)]) (looko ([17].map fun n => (n, or7 n)))) (fun st => (seqK (fun st => wpB C I R_c4 st Q) Q) .normal (St.trim st [10] (some [])))))
 (Q .normal (St.mk (look [(2, (s 2)), (11, (s 11)), (17, (s 17)), (18, (s 18)), (138, x8)]) (looko ([17].map fun n => (n, or7 n)))))))))))))) := rfl

theorem g_law17_BookActs_t34_sh {C : Ctx} {I : Nat → Prop} {s : Nat → V} {o : Nat → Option Ob} {K : St → Prop} : treeB C I g_law17_BookActs.a26 (.one 15 .done) (St.mk s o) K =
 ((([] : List Nat) = [] ∧ (K (St.mk (upd s 10 (s 174)) o)))) := rfl

theorem g_law17_BookActs_t35_sh {R_t34 : Tr} {C : Ctx} {I : Nat → Prop} {s : Nat → V} {o : Nat → Option Ob} {K : St → Prop} : treeB C I g_law17_BookActs.a26 (.one 14 R_t34) (St.mk s o) K =
 ((([] : List Nat) = [] ∧ (demand (pickV (s 172) (s 173) (V.d (.bool false))) (fun x1 =>
treeB C I g_law17_BookActs.a26 R_t34 (St.mk (upd s 174 x1) o) K)))) := rfl

theorem g_law17_BookActs_t36_sh {R_t35 : Tr} {C : Ctx} {I : Nat → Prop} {s : Nat → V} {o : Nat → Option Ob} {K : St → Prop} : treeB C I g_law17_BookActs.a26 (.one 13 R_t35) (St.mk s o) K =
 ((([] : List Nat) = [] ∧ guardK (s 172) true
 (callE C I (St.mk s o) (some 173) 4 [] (fun r1 or1 =>
treeB C I g_law17_BookActs.a26 R_t35 (St.mk (upd s 173 r1) or1) K))
 (treeB C I g_law17_BookActs.a26 R_t35 (St.mk (upd s 173 (V.tup [])) o) K)
 (treeB C I g_law17_BookActs.a26 R_t35 (St.mk (upd s 173 (V.tup [])) o) K))) := rfl

theorem g_law17_BookActs_t37_sh {R_t36 : Tr} {C : Ctx} {I : Nat → Prop} {s : Nat → V} {o : Nat → Option Ob} {K : St → Prop} : treeB C I g_law17_BookActs.a26 (.one 12 R_t36) (St.mk s o) K =
 ((([] : List Nat) = [] ∧ (treeB C I g_law17_BookActs.a26 R_t36 (St.mk (upd s 172 (s 171)) o) K))) := rfl

theorem g_law17_BookActs_t38_sh {R_t37 : Tr} {C : Ctx} {I : Nat → Prop} {s : Nat → V} {o : Nat → Option Ob} {K : St → Prop} : treeB C I g_law17_BookActs.a26 (.one 11 R_t37) (St.mk s o) K =
 ((([] : List Nat) = [] ∧ (demand (pickV (s 162) (s 170) (V.d (.bool false))) (fun x1 =>
treeB C I g_law17_BookActs.a26 R_t37 (St.mk (upd s 171 x1) o) K)))) := rfl

theorem g_law17_BookActs_t39_sh {R_t38 : Tr} {C : Ctx} {I : Nat → Prop} {s : Nat → V} {o : Nat → Option Ob} {K : St → Prop} : treeB C I g_law17_BookActs.a26 (.one 10 R_t38) (St.mk s o) K =
 ((([] : List Nat) = [] ∧ guardK (s 162) true
 (callE C I (St.mk s o) (some 170) 13 [(s 163), (s 169)] (fun r1 or1 =>
treeB C I g_law17_BookActs.a26 R_t38 (St.mk (upd s 170 r1) or1) K))
 (treeB C I g_law17_BookActs.a26 R_t38 (St.mk (upd s 170 (V.tup [])) o) K)
 (treeB C I g_law17_BookActs.a26 R_t38 (St.mk (upd s 170 (V.tup [])) o) K))) := rfl

theorem g_law17_BookActs_t40_sh {R_t39 : Tr} {C : Ctx} {I : Nat → Prop} {s : Nat → V} {o : Nat → Option Ob} {K : St → Prop} : treeB C I g_law17_BookActs.a26 (.one 9 R_t39) (St.mk s o) K =
 ((([] : List Nat) = [] ∧ guardK (s 162) true
 ((lstK (readD o (s 168)) (fun ys1 => (∀ e ∈ ys1, e.length = 22) ∧ appK (s 166)
 (ys1.length * 256 ≤ 140737488355328 ∧ ys1.length ≤ 140737488355328 ∧
treeB C I g_law17_BookActs.a26 R_t39 (St.mk (upd s 169 (V.d (D.sl ys1))) o) K)
 (fun m2 => ¬ I m2 ∧ rowK (o m2) (fun z3 es4 => z3 = 22 ∧ (es4.length + ys1.length) * 256 ≤ 140737488355328 ∧ es4.length + ys1.length ≤ 140737488355328 ∧
freeK (St.mk (upd (fun t => scrubV m2 (s t)) 169 (V.own m2)) (upd (fun n => (o n).map (Ob.scrub m2)) m2 (some (Ob.row 22 (es4 ++ ys1))))) m2 (fun st5 =>
treeB C I g_law17_BookActs.a26 R_t39 (St.mk st5.s st5.o) K))))) ∧ ∀ m, (s 166) = .own m → ∀ n cs, o n = some (.box cs) → V.refsL m cs = false)
 (treeB C I g_law17_BookActs.a26 R_t39 (St.mk (upd s 169 (V.tup [])) o) K)
 (treeB C I g_law17_BookActs.a26 R_t39 (St.mk (upd s 169 (V.tup [])) o) K))) := rfl

theorem g_law17_BookActs_t41_sh {R_t40 : Tr} {C : Ctx} {I : Nat → Prop} {s : Nat → V} {o : Nat → Option Ob} {K : St → Prop} : treeB C I g_law17_BookActs.a26 (.one 6 R_t40) (St.mk s o) K =
 ((([] : List Nat) = [] ∧ guardK (s 162) true
 ((lstK (readD o (s 165)) (fun ys1 => (∀ e ∈ ys1, e.length = 22) ∧ appK (s 164)
 (ys1.length * 256 ≤ 140737488355328 ∧ ys1.length ≤ 140737488355328 ∧ ¬ I 166 ∧ Fresh (St.mk s o) 166 (some 166) ∧
treeB C I g_law17_BookActs.a26 R_t40 (St.mk (upd s 166 (V.own 166)) (upd o 166 (some (Ob.row 22 ys1)))) K)
 (fun m2 => ¬ I m2 ∧ rowK (o m2) (fun z3 es4 => z3 = 22 ∧ (es4.length + ys1.length) * 256 ≤ 140737488355328 ∧ es4.length + ys1.length ≤ 140737488355328 ∧
treeB C I g_law17_BookActs.a26 R_t40 (St.mk (upd (fun t => scrubV m2 (s t)) 166 (V.own m2)) (upd (fun n => (o n).map (Ob.scrub m2)) m2 (some (Ob.row 22 (es4 ++ ys1))))) K)))) ∧ ∀ m, (s 164) = .own m → ∀ n cs, o n = some (.box cs) → V.refsL m cs = false)
 (treeB C I g_law17_BookActs.a26 R_t40 (St.mk (upd s 166 (V.tup [])) o) K)
 (treeB C I g_law17_BookActs.a26 R_t40 (St.mk (upd s 166 (V.tup [])) o) K))) := rfl

theorem g_law17_BookActs_i33_sh {R_t41 : Tr} {C : Ctx} {I : Nat → Prop} {s : Nat → V} {o : Nat → Option Ob} {K : St → Prop} : drawB C I g_law17_BookActs.a26 (8 :: []) R_t41 (St.mk s o) K =
 ((s 168) = V.undef ∧ guardK (s 162) true
 (lstK (partsN 22 [(s 167)]) (fun x1 => quietV o ((V.d (D.sl x1)) :: [(s 167)]) ∧
treeB C I g_law17_BookActs.a26 R_t41 (St.mk (upd s 168 (V.d (D.sl x1))) o) K))
 (quietV o ((V.tup []) :: [(s 167)]) ∧
treeB C I g_law17_BookActs.a26 R_t41 (St.mk (upd s 168 (V.tup [])) o) K)
 (quietV o ((V.tup []) :: [(s 167)]) ∧
treeB C I g_law17_BookActs.a26 R_t41 (St.mk (upd s 168 (V.tup [])) o) K)) := rfl

theorem g_law17_BookActs_i32_sh {R_i33 : List Nat} {R_t41 : Tr} {C : Ctx} {I : Nat → Prop} {s : Nat → V} {o : Nat → Option Ob} {K : St → Prop} : drawB C I g_law17_BookActs.a26 (7 :: R_i33) R_t41 (St.mk s o) K =
 ((s 167) = V.undef ∧ guardK (s 162) true
 (demand (loadV o (some 22) (s 20)) (fun x1 => quietV o (x1 :: [(s 20)]) ∧
drawB C I g_law17_BookActs.a26 R_i33 R_t41 (St.mk (upd s 167 x1) o) K))
 (quietV o ((V.tup []) :: [(s 20)]) ∧
drawB C I g_law17_BookActs.a26 R_i33 R_t41 (St.mk (upd s 167 (V.tup [])) o) K)
 (quietV o ((V.tup []) :: [(s 20)]) ∧
drawB C I g_law17_BookActs.a26 R_i33 R_t41 (St.mk (upd s 167 (V.tup [])) o) K)) := rfl

theorem g_law17_BookActs_i31_sh {R_i32 : List Nat} {R_t41 : Tr} {C : Ctx} {I : Nat → Prop} {s : Nat → V} {o : Nat → Option Ob} {K : St → Prop} : drawB C I g_law17_BookActs.a26 (5 :: R_i32) R_t41 (St.mk s o) K =
 ((s 165) = V.undef ∧ guardK (s 162) true
 (quietV o ((s 11) :: [(s 11)]) ∧
drawB C I g_law17_BookActs.a26 R_i32 R_t41 (St.mk (upd s 165 (s 11)) o) K)
 (quietV o ((V.tup []) :: [(s 11)]) ∧
drawB C I g_law17_BookActs.a26 R_i32 R_t41 (St.mk (upd s 165 (V.tup [])) o) K)
 (quietV o ((V.tup []) :: [(s 11)]) ∧
drawB C I g_law17_BookActs.a26 R_i32 R_t41 (St.mk (upd s 165 (V.tup [])) o) K)) := rfl

theorem g_law17_BookActs_i30_sh {R_i31 : List Nat} {R_t41 : Tr} {C : Ctx} {I : Nat → Prop} {s : Nat → V} {o : Nat → Option Ob} {K : St → Prop} : drawB C I g_law17_BookActs.a26 (4 :: R_i31) R_t41 (St.mk s o) K =
 ((s 164) = V.undef ∧ guardK (s 162) true
 (0 = 0 ∧ quietV o (V.cap0 :: []) ∧
drawB C I g_law17_BookActs.a26 R_i31 R_t41 (St.mk (upd s 164 V.cap0) o) K)
 (quietV o ((V.tup []) :: []) ∧
drawB C I g_law17_BookActs.a26 R_i31 R_t41 (St.mk (upd s 164 (V.tup [])) o) K)
 (quietV o ((V.tup []) :: []) ∧
drawB C I g_law17_BookActs.a26 R_i31 R_t41 (St.mk (upd s 164 (V.tup [])) o) K)) := rfl

theorem g_law17_BookActs_i29_sh {R_i30 : List Nat} {R_t41 : Tr} {C : Ctx} {I : Nat → Prop} {s : Nat → V} {o : Nat → Option Ob} {K : St → Prop} : drawB C I g_law17_BookActs.a26 (3 :: R_i30) R_t41 (St.mk s o) K =
 ((s 163) = V.undef ∧ guardK (s 162) true
 (demand (loadV o (some 1) (s 17)) (fun x1 => quietV o (x1 :: [(s 17)]) ∧
drawB C I g_law17_BookActs.a26 R_i30 R_t41 (St.mk (upd s 163 x1) o) K))
 (quietV o ((V.tup []) :: [(s 17)]) ∧
drawB C I g_law17_BookActs.a26 R_i30 R_t41 (St.mk (upd s 163 (V.tup [])) o) K)
 (quietV o ((V.tup []) :: [(s 17)]) ∧
drawB C I g_law17_BookActs.a26 R_i30 R_t41 (St.mk (upd s 163 (V.tup [])) o) K)) := rfl

theorem g_law17_BookActs_i28_sh {R_i29 : List Nat} {R_t41 : Tr} {C : Ctx} {I : Nat → Prop} {s : Nat → V} {o : Nat → Option Ob} {K : St → Prop} : drawB C I g_law17_BookActs.a26 (2 :: R_i29) R_t41 (St.mk s o) K =
 ((s 162) = V.undef ∧ (quietV o ((s 161) :: [(s 161)]) ∧
drawB C I g_law17_BookActs.a26 R_i29 R_t41 (St.mk (upd s 162 (s 161)) o) K)) := rfl

theorem g_law17_BookActs_i27_sh {R_i28 : List Nat} {R_t41 : Tr} {C : Ctx} {I : Nat → Prop} {s : Nat → V} {o : Nat → Option Ob} {K : St → Prop} : drawB C I g_law17_BookActs.a26 (1 :: R_i28) R_t41 (St.mk s o) K =
 ((s 161) = V.undef ∧ (demand (binV BinOp.eql (s 160) (V.d (.int .i64 0))) (fun x1 => quietV o (x1 :: [(s 160), (V.d (.int .i64 0))]) ∧
drawB C I g_law17_BookActs.a26 R_i28 R_t41 (St.mk (upd s 161 x1) o) K))) := rfl

theorem g_law17_BookActs_c6_sh {C : Ctx} {I : Nat → Prop} {s : Nat → V} {o : Nat → Option Ob} {Q : Ex → St → Prop} : wpB C I (.ret) (St.mk s o) Q =
 (Q .ret (St.mk s o)) := rfl

theorem g_law17_BookActs_c7_sh {R_i27 : List Nat} {R_t41 : Tr} {R_c6 : ACode} {C : Ctx} {I : Nat → Prop} {s : Nat → V} {o : Nat → Option Ob} {Q : Ex → St → Prop} : wpB C I (.seq (.region [10] (some []) (some (0 :: R_i27, R_t41)) g_law17_BookActs.a26)
 (R_c6)) (St.mk s o) Q =
 ((s 160) = V.undef ∧ (quietV o ((s 18) :: [(s 18)]) ∧
drawB C I g_law17_BookActs.a26 R_i27 R_t41 (St.mk (upd s 160 (s 18)) o) (fun st => (seqK (fun st => wpB C I R_c6 st Q) Q) .normal (St.trim st [10] (some []))))) := rfl

theorem g_law17_BookActs_c8_sh {R_c7 : ACode} {C : Ctx} {I : Nat → Prop} {s : Nat → V} {o : Nat → Option Ob} {Q : Ex → St → Prop} : wpB C I (.seq (.region [11, 17, 18, 20] (some [17, 20]) none
    [⟨some 157, .mv (.t 2), [], [], none, none⟩,
     ⟨some 158, .bin .add (.t 157) (.c (.d (.int .i64 1))), [], [], none, none⟩,
     ⟨some 159, .faddr 4 (.t 20), [], [], none, none⟩,
     ⟨none, .store 1 (.t 159) (.t 158), [], [], none, none⟩])
 (R_c7)) (St.mk s o) Q =
 (demand (binV BinOp.add (s 2) (V.d (.int .i64 1))) (fun x1 =>
demand (faddrV 4 (s 20)) (fun x2 =>
storeK x2 (cellsV x1) 1 o (fun m3 ob4 =>
wpB C I R_c7 (St.mk (look [(11, (s 11)), (17, (s 17)), (18, (s 18)), (20, (s 20))]) (looko ([17, 20].map fun n => (n, (upd o m3 (some ob4)) n)))) Q)))) := rfl

theorem g_law17_BookActs_c9_sh {R_c8 : ACode} {C : Ctx} {I : Nat → Prop} {s : Nat → V} {o : Nat → Option Ob} {Q : Ex → St → Prop} : wpB C I (.seq (.region [2, 11, 17, 18, 20] (some [17, 20]) none
    [⟨some 153, .mv (.t 11), [], [], none, none⟩,
     ⟨some 154, .mv (.t 2), [], [], none, none⟩,
     ⟨some 155, .iaddr 22 (.t 153) (.t 154), [], [], none, none⟩,
     ⟨some 156, .load (some 22) (.t 155), [], [], none, none⟩,
     ⟨some 20, .alloc 20 [.d (.int .i64 0), .d (.int .i64 0), .d (.int .i64 0), .d (.int .i64 0), .d (.int .i64 0), .cap0, .d (.int .i64 0), .d (.int .i64 0), .d (.int .i64 0), .d (.int .i64 0), .d (.int .i64 0), .d (.int .i64 0), .d (.int .i64 0), .d (.int .i64 0), .d (.int .i64 0), .d (.int .i64 0), .d (.int .i64 0), .d (.int .i64 0), .cap0, .cap0, .cap0, .cap0], [], [], none, none⟩,
     ⟨none, .store 22 (.t 20) (.t 156), [], [], none, none⟩])
 (R_c8)) (St.mk s o) Q =
 (demand (iaddrV o 22 (s 11) (s 2)) (fun x1 =>
demand (loadV o (some 22) x1) (fun x2 =>
(¬ I 20 ∧ Fresh (St.mk (upd (upd (upd (upd s 153 (s 11)) 154 (s 2)) 155 x1) 156 x2) o) 20 (some 20) ∧ V.refsL 20 [V.d (.int .i64 0), V.d (.int .i64 0), V.d (.int .i64 0), V.d (.int .i64 0), V.d (.int .i64 0), V.cap0, V.d (.int .i64 0), V.d (.int .i64 0), V.d (.int .i64 0), V.d (.int .i64 0), V.d (.int .i64 0), V.d (.int .i64 0), V.d (.int .i64 0), V.d (.int .i64 0), V.d (.int .i64 0), V.d (.int .i64 0), V.d (.int .i64 0), V.d (.int .i64 0), V.cap0, V.cap0, V.cap0, V.cap0] = false ∧
storeK (V.ptr 20 0) (cellsV x2) 22 (upd o 20 (some (Ob.box [V.d (.int .i64 0), V.d (.int .i64 0), V.d (.int .i64 0), V.d (.int .i64 0), V.d (.int .i64 0), V.cap0, V.d (.int .i64 0), V.d (.int .i64 0), V.d (.int .i64 0), V.d (.int .i64 0), V.d (.int .i64 0), V.d (.int .i64 0), V.d (.int .i64 0), V.d (.int .i64 0), V.d (.int .i64 0), V.d (.int .i64 0), V.d (.int .i64 0), V.d (.int .i64 0), V.cap0, V.cap0, V.cap0, V.cap0]))) (fun m3 ob4 =>
wpB C I R_c8 (St.mk (look [(2, (s 2)), (11, (s 11)), (17, (s 17)), (18, (s 18)), (20, (V.ptr 20 0))]) (looko ([17, 20].map fun n => (n, (upd (upd o 20 (some (Ob.box [V.d (.int .i64 0), V.d (.int .i64 0), V.d (.int .i64 0), V.d (.int .i64 0), V.d (.int .i64 0), V.cap0, V.d (.int .i64 0), V.d (.int .i64 0), V.d (.int .i64 0), V.d (.int .i64 0), V.d (.int .i64 0), V.d (.int .i64 0), V.d (.int .i64 0), V.d (.int .i64 0), V.d (.int .i64 0), V.d (.int .i64 0), V.d (.int .i64 0), V.d (.int .i64 0), V.cap0, V.cap0, V.cap0, V.cap0]))) m3 (some ob4)) n)))) Q))))) := rfl

theorem g_law17_BookActs_c10_sh {R_o12 : List AOper} {R_c5 : ACode} {R_c9 : ACode} {C : Ctx} {I : Nat → Prop} {s : Nat → V} {o : Nat → Option Ob} {Q : Ex → St → Prop} : wpB C I (.seq (.block 1 [2, 11, 17, 18] (some [17]) (.seq (.region [2, 11, 17, 18, 102] (some [17]) none
      (⟨some 103, .mv (.t 2), [], [], none, none⟩ ::
       ⟨some 104, .bin .lss (.t 103) (.c (.d (.int .i64 0))), [], [], none, none⟩ ::
       ⟨some 105, .mv (.t 104), [], [], none, (some ([2, 11, 17, 18, 105], (some [17])))⟩ ::
       R_o12))
   (R_c5)))
 (R_c9)) (St.mk s o) Q =
 (demand (binV BinOp.lss (s 2) (V.d (.int .i64 0))) (fun x1 =>
opsB C I R_o12 (St.mk (look [(2, (s 2)), (11, (s 11)), (17, (s 17)), (18, (s 18)), (105, x1)]) (looko ([17].map fun n => (n, o n)))) (fun st => (seqK (fun st => wpB C I R_c5 st (blockK 1 [2, 11, 17, 18] (some [17]) (seqK (fun st => wpB C I R_c9 st Q) Q))) (blockK 1 [2, 11, 17, 18] (some [17]) (seqK (fun st => wpB C I R_c9 st Q) Q))) .normal (St.trim st [2, 11, 17, 18, 102] (some [17]))))) := rfl

theorem g_law17_BookActs_c11_sh {R_c10 : ACode} {C : Ctx} {I : Nat → Prop} {s : Nat → V} {o : Nat → Option Ob} {Q : Ex → St → Prop} : wpB C I (.seq (.seq (.region [2, 11, 17, 18, 101] (some [17]) none
     [⟨some 98, .load (some 1) (.t 15), [], [], none, none⟩,
      ⟨some 99, .mv (.t 19), [], [], none, none⟩,
      ⟨some 100, .call 13 [(.t 98), (.t 99)], [], [], none, none⟩,
      ⟨some 101, .un .not (.t 100), [], [], none, none⟩])
  (.cond (.t 101) (.seq (.region [10] (some []) none
       [⟨some 10, .mv (.c (.d (.bool false))), [], [], none, none⟩])
    (.ret))
   (.skip)))
 (R_c10)) (St.mk s o) Q =
 (demand (loadV o (some 1) (s 15)) (fun x1 =>
callK C I (St.mk (upd (upd s 98 x1) 99 (s 19)) o) (some 100) 13 [x1, (s 19)] (fun r2 or2 =>
demand (unV UnOp.not r2) (fun x3 =>
condK x3
 (Q .ret (St.mk (look [(10, (V.d (.bool false)))]) (looko ([].map fun n => (n, or2 n)))))
 (wpB C I R_c10 (St.mk (look [(2, (s 2)), (11, (s 11)), (17, (s 17)), (18, (s 18)), (101, x3)]) (looko ([17].map fun n => (n, or2 n)))) Q))))) := rfl

theorem g_law17_BookActs_c12_sh {R_c11 : ACode} {C : Ctx} {I : Nat → Prop} {s : Nat → V} {o : Nat → Option Ob} {Q : Ex → St → Prop} : wpB C I (.seq (.block 0 [2, 11, 15, 17, 18, 19] (some [15, 17]) (.seq (.region [2, 6, 11, 15, 16, 17, 18, 19, 77] (some [6, 15, 17]) none
      [⟨some 78, .faddr 4 (.t 6), [], [], none, none⟩,
       ⟨some 79, .load none (.t 78), [], [], none, none⟩,
       ⟨some 80, .bin .neq (.t 79) (.c (.d (.int .i64 0))), [], [], none, none⟩,
       ⟨some 77, .mv (.t 80), [], [], none, none⟩])
   (.cond (.t 77) (.seq (.region [2, 11, 15, 16, 17, 18, 19] (some [15, 17]) none
        [⟨some 81, .mv (.t 11), [], [], none, none⟩,
         ⟨some 19, .mv (.t 81), [], [], none, none⟩])
     (.seq (.region [2, 11, 15, 17, 18, 19, 83] (some [15, 17]) none
         [⟨some 82, .mv (.t 16), [], [], none, none⟩,
          ⟨some 83, .bin .neq (.t 82) (.c (.d (.int .i64 1))), [], [], none, none⟩])
      (.cond (.t 83) (.seq (.region [10] (some []) none
           [⟨some 10, .mv (.c (.d (.bool false))), [], [], none, none⟩])
        (.ret))
       (.skip))))
    (.seq (.region [2, 11, 15, 16, 17, 18, 19, 84] (some [15, 17]) none
        [⟨some 85, .mv (.t 11), [], [], none, none⟩,
         ⟨some 86, .faddr 2 (.t 6), [], [], none, none⟩,
         ⟨some 87, .load none (.t 86), [], [], none, none⟩,
         ⟨some 88, .faddr 1 (.t 6), [], [], none, none⟩,
         ⟨some 89, .load none (.t 88), [], [], none, none⟩,
         ⟨some 90, .call 11 [(.t 85), (.t 87), (.t 89)], [], [], none, none⟩,
         ⟨some 91, .bin .geq (.t 90) (.c (.d (.int .i64 0))), [], [], none, none⟩,
         ⟨some 84, .mv (.t 91), [], [], none, none⟩])
     (.cond (.t 84) (.seq (.region [2, 11, 15, 16, 17, 18, 19] (some [15, 17]) none
          [⟨some 92, .mv (.t 11), [], [], none, none⟩,
           ⟨some 19, .mv (.t 92), [], [], none, none⟩])
       (.seq (.region [2, 11, 15, 17, 18, 19, 94] (some [15, 17]) none
           [⟨some 93, .mv (.t 16), [], [], none, none⟩,
            ⟨some 94, .bin .neq (.t 93) (.c (.d (.int .i64 6))), [], [], none, none⟩])
        (.cond (.t 94) (.seq (.region [10] (some []) none
             [⟨some 10, .mv (.c (.d (.bool false))), [], [], none, none⟩])
          (.ret))
         (.skip))))
      (.seq (.region [2, 11, 15, 17, 18, 19, 95] (some [15, 17]) none
          [⟨some 96, .mv (.t 16), [], [], none, none⟩,
           ⟨some 97, .bin .neq (.t 96) (.c (.d (.int .i64 0))), [], [], none, none⟩,
           ⟨some 95, .mv (.t 97), [], [], none, none⟩])
       (.cond (.t 95) (.seq (.region [10] (some []) none
            [⟨some 10, .mv (.c (.d (.bool false))), [], [], none, none⟩])
         (.ret))
        (.skip))))))))
 (R_c11)) (St.mk s o) Q =
 (demand (faddrV 4 (s 6)) (fun x1 =>
demand (loadV o none x1) (fun x2 =>
demand (binV BinOp.neq x2 (V.d (.int .i64 0))) (fun x3 =>
condK x3
 (demand (binV BinOp.neq (s 16) (V.d (.int .i64 1))) (fun x4 =>
condK x4
 (Q .ret (St.mk (look [(10, (V.d (.bool false)))]) (looko ([].map fun n => (n, o n)))))
 (wpB C I R_c11 (St.mk (look [(2, (s 2)), (11, (s 11)), (15, (s 15)), (17, (s 17)), (18, (s 18)), (19, (s 11))]) (looko ([15, 17].map fun n => (n, o n)))) Q)))
 (demand (faddrV 2 (s 6)) (fun x5 =>
demand (loadV (looko ([6, 15, 17].map fun n => (n, o n))) none x5) (fun x6 =>
demand (faddrV 1 (s 6)) (fun x7 =>
demand (loadV (looko ([6, 15, 17].map fun n => (n, o n))) none x7) (fun x8 =>
callK C I (St.mk (upd (upd (upd (upd (upd (look [(2, (s 2)), (6, (s 6)), (11, (s 11)), (15, (s 15)), (16, (s 16)), (17, (s 17)), (18, (s 18)), (19, (s 19)), (77, x3)]) 85 (s 11)) 86 x5) 87 x6) 88 x7) 89 x8) (looko ([6, 15, 17].map fun n => (n, o n)))) (some 90) 11 [(s 11), x6, x8] (fun r9 or9 =>
demand (binV BinOp.geq r9 (V.d (.int .i64 0))) (fun x10 =>
condK x10
 (demand (binV BinOp.neq (s 16) (V.d (.int .i64 6))) (fun x11 =>
condK x11
 (Q .ret (St.mk (look [(10, (V.d (.bool false)))]) (looko ([].map fun n => (n, or9 n)))))
 (wpB C I R_c11 (St.mk (look [(2, (s 2)), (11, (s 11)), (15, (s 15)), (17, (s 17)), (18, (s 18)), (19, (s 11))]) (looko ([15, 17].map fun n => (n, or9 n)))) Q)))
 (demand (binV BinOp.neq (s 16) (V.d (.int .i64 0))) (fun x12 =>
condK x12
 (Q .ret (St.mk (look [(10, (V.d (.bool false)))]) (looko ([].map fun n => (n, or9 n)))))
 (wpB C I R_c11 (St.mk (look [(2, (s 2)), (11, (s 11)), (15, (s 15)), (17, (s 17)), (18, (s 18)), (19, (s 19))]) (looko ([15, 17].map fun n => (n, or9 n)))) Q)))))))))))))) := rfl

theorem g_law17_BookActs_c13_sh {R_i5 : List Nat} {R_t11 : Tr} {R_c12 : ACode} {C : Ctx} {I : Nat → Prop} {s : Nat → V} {o : Nat → Option Ob} {Q : Ex → St → Prop} : wpB C I (.seq (.region [2, 6, 11, 15, 16, 17, 18, 19] (some [6, 15, 17]) (some (0 :: R_i5, R_t11)) g_law17_BookActs.a4)
 (R_c12)) (St.mk s o) Q =
 ((s 70) = V.undef ∧ (0 = 0 ∧ quietV o (V.cap0 :: []) ∧
drawB C I g_law17_BookActs.a4 R_i5 R_t11 (St.mk (upd s 70 V.cap0) o) (fun st => (seqK (fun st => wpB C I R_c12 st Q) Q) .normal (St.trim st [2, 6, 11, 15, 16, 17, 18, 19] (some [6, 15, 17]))))) := rfl

theorem g_law17_BookActs_c14_sh {R_o2 : List AOper} {R_c1 : ACode} {R_c13 : ACode} {C : Ctx} {I : Nat → Prop} {s : Nat → V} {o : Nat → Option Ob} {Q : Ex → St → Prop} : wpB C I (.seq (.seq (.region [2, 6, 11, 15, 16, 17, 18, 69] (some [6, 15, 17]) none
     (⟨some 52, .load (some 1) (.t 5), [], [], none, none⟩ ::
      ⟨some 53, .mv (.t 2), [], [], none, none⟩ ::
      ⟨some 54, .call 9 [(.t 52), (.t 53)], [], [], none, none⟩ ::
      ⟨some 55, .mv (.t 11), [], [], none, none⟩ ::
      ⟨some 56, .mv (.t 2), [], [], none, none⟩ ::
      ⟨some 57, .call 10 [(.t 55), (.t 56)], [], [], none, none⟩ ::
      ⟨some 58, .beq true (.t 54) (.t 57), [], [], none, none⟩ ::
      ⟨some 59, .mv (.t 58), [], [], none, (some ([2, 3, 4, 5, 6, 11, 15, 16, 17, 18, 59], (some [5, 6, 15, 17])))⟩ ::
      R_o2))
  (R_c1))
 (R_c13)) (St.mk s o) Q =
 (demand (loadV o (some 1) (s 5)) (fun x1 =>
callK C I (St.mk (upd (upd s 52 x1) 53 (s 2)) o) (some 54) 9 [x1, (s 2)] (fun r2 or2 =>
callK C I (St.mk (upd (upd (upd (upd (upd s 52 x1) 53 (s 2)) 54 r2) 55 (s 11)) 56 (s 2)) or2) (some 57) 10 [(s 11), (s 2)] (fun r3 or3 =>
demand (beqV true r2 r3) (fun x4 =>
opsB C I R_o2 (St.mk (look [(2, (s 2)), (3, (s 3)), (4, (s 4)), (5, (s 5)), (6, (s 6)), (11, (s 11)), (15, (s 15)), (16, (s 16)), (17, (s 17)), (18, (s 18)), (59, x4)]) (looko ([5, 6, 15, 17].map fun n => (n, or3 n)))) (fun st => (seqK (fun st => wpB C I R_c1 st (seqK (fun st => wpB C I R_c13 st Q) Q)) (seqK (fun st => wpB C I R_c13 st Q) Q)) .normal (St.trim st [2, 6, 11, 15, 16, 17, 18, 69] (some [6, 15, 17])))))))) := rfl

theorem g_law17_BookActs_c15_sh {R_c14 : ACode} {C : Ctx} {I : Nat → Prop} {s : Nat → V} {o : Nat → Option Ob} {Q : Ex → St → Prop} : wpB C I (.seq (.region [2, 3, 4, 5, 6, 11, 15, 16, 17, 18] (some [5, 6, 15, 17]) none
    [⟨some 47, .load (some 1) (.t 5), [], [], none, none⟩,
     ⟨some 48, .mv (.t 2), [], [], none, none⟩,
     ⟨some 49, .call 7 [(.t 47), (.t 48)], [], [], none, none⟩,
     ⟨some 46, .mv (.t 49), [], [], none, none⟩,
     ⟨some 50, .ext (.t 46) 0, [], [], none, none⟩,
     ⟨some 51, .ext (.t 46) 1, [], [], none, none⟩,
     ⟨some 17, .alloc 17 [.cap0], [], [], none, none⟩,
     ⟨none, .store 1 (.t 17) (.t 50), [], [], none, none⟩,
     ⟨some 18, .mv (.t 51), [], [], none, none⟩])
 (R_c14)) (St.mk s o) Q =
 (demand (loadV o (some 1) (s 5)) (fun x1 =>
callK C I (St.mk (upd (upd s 47 x1) 48 (s 2)) o) (some 49) 7 [x1, (s 2)] (fun r2 or2 =>
demand (extV r2 0) (fun x3 =>
demand (extV r2 1) (fun x4 =>
(¬ I 17 ∧ Fresh (St.mk (upd (upd (upd (upd (upd (upd s 47 x1) 48 (s 2)) 49 r2) 46 r2) 50 x3) 51 x4) or2) 17 (some 17) ∧ V.refsL 17 [V.cap0] = false ∧
storeK (V.ptr 17 0) (cellsV x3) 1 (upd or2 17 (some (Ob.box [V.cap0]))) (fun m5 ob6 =>
wpB C I R_c14 (St.mk (look [(2, (s 2)), (3, (s 3)), (4, (s 4)), (5, (s 5)), (6, (s 6)), (11, (s 11)), (15, (s 15)), (16, (s 16)), (17, (V.ptr 17 0)), (18, x4)]) (looko ([5, 6, 15, 17].map fun n => (n, (upd (upd or2 17 (some (Ob.box [V.cap0]))) m5 (some ob6)) n)))) Q))))))) := rfl

theorem g_law17_BookActs_c16_sh {R_c15 : ACode} {C : Ctx} {I : Nat → Prop} {s : Nat → V} {o : Nat → Option Ob} {Q : Ex → St → Prop} : wpB C I (.seq (.region [2, 3, 4, 5, 6, 11, 15, 16] (some [5, 6, 15]) none
    [⟨some 41, .load (some 1) (.t 5), [], [], none, none⟩,
     ⟨some 42, .load (some 22) (.t 6), [], [], none, none⟩,
     ⟨some 43, .call 5 [(.t 41), (.t 42)], [], [], none, none⟩,
     ⟨some 40, .mv (.t 43), [], [], none, none⟩,
     ⟨some 44, .ext (.t 40) 0, [], [], none, none⟩,
     ⟨some 45, .ext (.t 40) 1, [], [], none, none⟩,
     ⟨some 15, .alloc 15 [.cap0], [], [], none, none⟩,
     ⟨none, .store 1 (.t 15) (.t 44), [], [], none, none⟩,
     ⟨some 16, .mv (.t 45), [], [], none, none⟩])
 (R_c15)) (St.mk s o) Q =
 (demand (loadV o (some 1) (s 5)) (fun x1 =>
demand (loadV o (some 22) (s 6)) (fun x2 =>
callK C I (St.mk (upd (upd s 41 x1) 42 x2) o) (some 43) 5 [x1, x2] (fun r3 or3 =>
demand (extV r3 0) (fun x4 =>
demand (extV r3 1) (fun x5 =>
(¬ I 15 ∧ Fresh (St.mk (upd (upd (upd (upd (upd (upd s 41 x1) 42 x2) 43 r3) 40 r3) 44 x4) 45 x5) or3) 15 (some 15) ∧ V.refsL 15 [V.cap0] = false ∧
storeK (V.ptr 15 0) (cellsV x4) 1 (upd or3 15 (some (Ob.box [V.cap0]))) (fun m6 ob7 =>
wpB C I R_c15 (St.mk (look [(2, (s 2)), (3, (s 3)), (4, (s 4)), (5, (s 5)), (6, (s 6)), (11, (s 11)), (15, (V.ptr 15 0)), (16, x5)]) (looko ([5, 6, 15].map fun n => (n, (upd (upd or3 15 (some (Ob.box [V.cap0]))) m6 (some ob7)) n)))) Q)))))))) := rfl

theorem g_law17_BookActs_c17_sh {R_o0 : List AOper} {R_c0 : ACode} {R_c16 : ACode} {C : Ctx} {I : Nat → Prop} {s : Nat → V} {o : Nat → Option Ob} {Q : Ex → St → Prop} : wpB C I (.seq (.seq (.region [2, 3, 4, 5, 6, 11, 38] (some [5, 6]) none
     (⟨some 33, .mv (.t 12), [], [], none, none⟩ ::
      ⟨some 34, .un .not (.t 33), [], [], none, none⟩ ::
      ⟨some 35, .mv (.t 34), [], [], none, (some ([2, 3, 4, 5, 6, 11, 14, 35], (some [5, 6])))⟩ ::
      R_o0))
  (R_c0))
 (R_c16)) (St.mk s o) Q =
 (demand (unV UnOp.not (s 12)) (fun x1 =>
opsB C I R_o0 (St.mk (look [(2, (s 2)), (3, (s 3)), (4, (s 4)), (5, (s 5)), (6, (s 6)), (11, (s 11)), (14, (s 14)), (35, x1)]) (looko ([5, 6].map fun n => (n, o n)))) (fun st => (seqK (fun st => wpB C I R_c0 st (seqK (fun st => wpB C I R_c16 st Q) Q)) (seqK (fun st => wpB C I R_c16 st Q) Q)) .normal (St.trim st [2, 3, 4, 5, 6, 11, 38] (some [5, 6]))))) := rfl

theorem g_law17_BookActs_c18_sh {R_c17 : ACode} {C : Ctx} {I : Nat → Prop} {s : Nat → V} {o : Nat → Option Ob} {Q : Ex → St → Prop} : wpB C I (.seq (.region [2, 3, 4, 5, 6, 11, 12, 14] (some [5, 6]) none
    [⟨some 27, .load (some 22) (.t 6), [], [], none, none⟩,
     ⟨some 28, .bsl none 22 [] 1 [(0, (.t 27))], [], [], none, none⟩,
     ⟨some 29, .build [.cap0] [(0, 1, (.t 28))], [], [], none, none⟩,
     ⟨some 30, .call 3 [(.t 29)], [], [], none, none⟩,
     ⟨some 26, .mv (.t 30), [], [], none, none⟩,
     ⟨some 31, .ext (.t 26) 0, [], [], none, none⟩,
     ⟨some 32, .ext (.t 26) 1, [], [], none, none⟩,
     ⟨some 13, .mv (.t 31), [], [], none, none⟩,
     ⟨some 14, .mv (.t 32), [], [], none, none⟩])
 (R_c17)) (St.mk s o) Q =
 (demand (loadV o (some 22) (s 6)) (fun x1 =>
lstK (partsN 22 [x1]) (fun es2 =>
demand ((buildN [V.cap0] [(0, 1, (V.d (D.sl es2)))]).map V.agg) (fun x3 =>
callK C I (St.mk (upd (upd (upd s 27 x1) 28 (V.d (D.sl es2))) 29 x3) o) (some 30) 3 [x3] (fun r4 or4 =>
demand (extV r4 0) (fun x5 =>
demand (extV r4 1) (fun x6 =>
wpB C I R_c17 (St.mk (look [(2, (s 2)), (3, (s 3)), (4, (s 4)), (5, (s 5)), (6, (s 6)), (11, (s 11)), (12, (s 12)), (14, x6)]) (looko ([5, 6].map fun n => (n, or4 n)))) Q))))))) := rfl

theorem g_law17_BookActs_code_sh {R_c18 : ACode} {C : Ctx} {I : Nat → Prop} {s : Nat → V} {o : Nat → Option Ob} {Q : Ex → St → Prop} : wpB C I (.seq (.region [2, 3, 4, 5, 6] (some [5, 6]) none
    [⟨some 5, .box 5 1 (.t 0), [], [], none, none⟩,
     ⟨some 6, .box 6 22 (.t 1), [], [], none, none⟩,
     ⟨some 10, .mv (.c (.d (.bool false))), [], [], none, none⟩])
 (.seq (.region [2, 3, 4, 5, 6, 11, 12] (some [5, 6]) none
     [⟨some 22, .load (some 1) (.t 5), [], [], none, none⟩,
      ⟨some 23, .call 3 [(.t 22)], [], [], none, none⟩,
      ⟨some 21, .mv (.t 23), [], [], none, none⟩,
      ⟨some 24, .ext (.t 21) 0, [], [], none, none⟩,
      ⟨some 25, .ext (.t 21) 1, [], [], none, none⟩,
      ⟨some 11, .mv (.t 24), [], [], none, none⟩,
      ⟨some 12, .mv (.t 25), [], [], none, none⟩])
  (R_c18))) (St.mk s o) Q =
 (lstK (cellsV (s 0)) (fun c1 => c1.length = 1 ∧ ¬ I 5 ∧ Fresh (St.mk s o) 5 (some 5) ∧ V.refsL 5 c1 = false ∧
lstK (cellsV (s 1)) (fun c2 => c2.length = 22 ∧ ¬ I 6 ∧ Fresh (St.mk (upd s 5 (V.ptr 5 0)) (upd o 5 (some (Ob.box c1)))) 6 (some 6) ∧ V.refsL 6 c2 = false ∧
demand (loadV (looko ([5, 6].map fun n => (n, (upd (upd o 5 (some (Ob.box c1))) 6 (some (Ob.box c2))) n))) (some 1) (V.ptr 5 0)) (fun x3 =>
callK C I (St.mk (upd (look [(2, (s 2)), (3, (s 3)), (4, (s 4)), (5, (V.ptr 5 0)), (6, (V.ptr 6 0))]) 22 x3) (looko ([5, 6].map fun n => (n, (upd (upd o 5 (some (Ob.box c1))) 6 (some (Ob.box c2))) n)))) (some 23) 3 [x3] (fun r4 or4 =>
demand (extV r4 0) (fun x5 =>
demand (extV r4 1) (fun x6 =>
wpB C I R_c18 (St.mk (look [(2, (s 2)), (3, (s 3)), (4, (s 4)), (5, (V.ptr 5 0)), (6, (V.ptr 6 0)), (11, x5), (12, x6)]) (looko ([5, 6].map fun n => (n, or4 n)))) Q))))))) := rfl

theorem g_law17_refs_o7_sh {C : Ctx} {I : Nat → Prop} {s : Nat → V} {o : Nat → Option Ob} {K : St → Prop} : opsB C I [⟨some 49, .pick (.t 43) (.c (.d (.bool true))) (.t 48), [], [], none, none⟩] (St.mk s o) K =
 (demand (pickV (s 43) (V.d (.bool true)) (s 48)) (fun x1 =>
K (St.mk (upd s 49 x1) o))) := rfl

theorem g_law17_refs_o6_sh {R_o7 : List AOper} {C : Ctx} {I : Nat → Prop} {s : Nat → V} {o : Nat → Option Ob} {K : St → Prop} : opsB C I (⟨some 44, .faddr 5 (.t 6), [], [], (some (25, 43, false)), none⟩ ::
     ⟨some 45, .faddr 15 (.t 44), [], [], (some (25, 43, false)), none⟩ ::
     ⟨some 46, .load none (.t 45), [], [], (some (25, 43, false)), none⟩ ::
     ⟨some 47, .len (.t 46), [], [], (some (25, 43, false)), none⟩ ::
     ⟨some 48, .bin .gtr (.t 47) (.c (.d (.int .i64 40))), [], [], (some (25, 43, false)), (some ([4, 6, 12, 13, 14, 43, 48], (some [6, 54])))⟩ ::
     R_o7) (St.mk s o) K =
 (guardK (s 43) false
 (demand (faddrV 5 (s 6)) (fun x1 =>
demand (faddrV 15 x1) (fun x2 =>
demand (loadV o none x2) (fun x3 =>
demand (lenV o x3) (fun x4 =>
demand (binV BinOp.gtr x4 (V.d (.int .i64 40))) (fun x5 =>
opsB C I R_o7 (St.mk (look [(4, (s 4)), (6, (s 6)), (12, (s 12)), (13, (s 13)), (14, (s 14)), (43, (V.d (D.bool false))), (48, x5)]) (looko ([6, 54].map fun n => (n, o n)))) K))))))
 (opsB C I R_o7 (St.mk (look [(4, (s 4)), (6, (s 6)), (12, (s 12)), (13, (s 13)), (14, (s 14)), (43, (V.d (D.bool true))), (48, (V.tup []))]) (looko ([6, 54].map fun n => (n, o n)))) K)
 (opsB C I R_o7 (St.mk (look [(4, (s 4)), (6, (s 6)), (12, (s 12)), (13, (s 13)), (14, (s 14)), (43, (V.tup [])), (48, (V.tup []))]) (looko ([6, 54].map fun n => (n, o n)))) K)) := rfl

theorem g_law17_refs_o5_sh {R_o6 : List AOper} {C : Ctx} {I : Nat → Prop} {s : Nat → V} {o : Nat → Option Ob} {K : St → Prop} : opsB C I (⟨some 42, .pick (.t 36) (.c (.d (.bool true))) (.t 41), [], [], none, none⟩ ::
     ⟨some 43, .mv (.t 42), [], [], none, (some ([4, 6, 12, 13, 14, 43], (some [6, 54])))⟩ ::
     R_o6) (St.mk s o) K =
 (demand (pickV (s 36) (V.d (.bool true)) (s 41)) (fun x1 =>
opsB C I R_o6 (St.mk (look [(4, (s 4)), (6, (s 6)), (12, (s 12)), (13, (s 13)), (14, (s 14)), (43, x1)]) (looko ([6, 54].map fun n => (n, o n)))) K)) := rfl

theorem g_law17_refs_o4_sh {R_o5 : List AOper} {C : Ctx} {I : Nat → Prop} {s : Nat → V} {o : Nat → Option Ob} {K : St → Prop} : opsB C I (⟨some 37, .faddr 5 (.t 6), [], [], (some (18, 36, false)), none⟩ ::
     ⟨some 38, .faddr 14 (.t 37), [], [], (some (18, 36, false)), none⟩ ::
     ⟨some 39, .load none (.t 38), [], [], (some (18, 36, false)), none⟩ ::
     ⟨some 40, .len (.t 39), [], [], (some (18, 36, false)), none⟩ ::
     ⟨some 41, .bin .gtr (.t 40) (.c (.d (.int .i64 40))), [], [], (some (18, 36, false)), (some ([4, 6, 12, 13, 14, 36, 41], (some [6, 54])))⟩ ::
     R_o5) (St.mk s o) K =
 (guardK (s 36) false
 (demand (faddrV 5 (s 6)) (fun x1 =>
demand (faddrV 14 x1) (fun x2 =>
demand (loadV o none x2) (fun x3 =>
demand (lenV o x3) (fun x4 =>
demand (binV BinOp.gtr x4 (V.d (.int .i64 40))) (fun x5 =>
opsB C I R_o5 (St.mk (look [(4, (s 4)), (6, (s 6)), (12, (s 12)), (13, (s 13)), (14, (s 14)), (36, (V.d (D.bool false))), (41, x5)]) (looko ([6, 54].map fun n => (n, o n)))) K))))))
 (opsB C I R_o5 (St.mk (look [(4, (s 4)), (6, (s 6)), (12, (s 12)), (13, (s 13)), (14, (s 14)), (36, (V.d (D.bool true))), (41, (V.tup []))]) (looko ([6, 54].map fun n => (n, o n)))) K)
 (opsB C I R_o5 (St.mk (look [(4, (s 4)), (6, (s 6)), (12, (s 12)), (13, (s 13)), (14, (s 14)), (36, (V.tup [])), (41, (V.tup []))]) (looko ([6, 54].map fun n => (n, o n)))) K)) := rfl

theorem g_law17_refs_o3_sh {R_o4 : List AOper} {C : Ctx} {I : Nat → Prop} {s : Nat → V} {o : Nat → Option Ob} {K : St → Prop} : opsB C I (⟨some 35, .pick (.t 29) (.c (.d (.bool true))) (.t 34), [], [], none, none⟩ ::
     ⟨some 36, .mv (.t 35), [], [], none, (some ([4, 6, 12, 13, 14, 36], (some [6, 54])))⟩ ::
     R_o4) (St.mk s o) K =
 (demand (pickV (s 29) (V.d (.bool true)) (s 34)) (fun x1 =>
opsB C I R_o4 (St.mk (look [(4, (s 4)), (6, (s 6)), (12, (s 12)), (13, (s 13)), (14, (s 14)), (36, x1)]) (looko ([6, 54].map fun n => (n, o n)))) K)) := rfl

theorem g_law17_refs_o2_sh {R_o3 : List AOper} {C : Ctx} {I : Nat → Prop} {s : Nat → V} {o : Nat → Option Ob} {K : St → Prop} : opsB C I (⟨some 30, .faddr 5 (.t 6), [], [], (some (11, 29, false)), none⟩ ::
     ⟨some 31, .faddr 13 (.t 30), [], [], (some (11, 29, false)), none⟩ ::
     ⟨some 32, .load none (.t 31), [], [], (some (11, 29, false)), none⟩ ::
     ⟨some 33, .len (.t 32), [], [], (some (11, 29, false)), none⟩ ::
     ⟨some 34, .bin .gtr (.t 33) (.c (.d (.int .i64 40))), [], [], (some (11, 29, false)), (some ([4, 6, 12, 13, 14, 29, 34], (some [6, 54])))⟩ ::
     R_o3) (St.mk s o) K =
 (guardK (s 29) false
 (demand (faddrV 5 (s 6)) (fun x1 =>
demand (faddrV 13 x1) (fun x2 =>
demand (loadV o none x2) (fun x3 =>
demand (lenV o x3) (fun x4 =>
demand (binV BinOp.gtr x4 (V.d (.int .i64 40))) (fun x5 =>
opsB C I R_o3 (St.mk (look [(4, (s 4)), (6, (s 6)), (12, (s 12)), (13, (s 13)), (14, (s 14)), (29, (V.d (D.bool false))), (34, x5)]) (looko ([6, 54].map fun n => (n, o n)))) K))))))
 (opsB C I R_o3 (St.mk (look [(4, (s 4)), (6, (s 6)), (12, (s 12)), (13, (s 13)), (14, (s 14)), (29, (V.d (D.bool true))), (34, (V.tup []))]) (looko ([6, 54].map fun n => (n, o n)))) K)
 (opsB C I R_o3 (St.mk (look [(4, (s 4)), (6, (s 6)), (12, (s 12)), (13, (s 13)), (14, (s 14)), (29, (V.tup [])), (34, (V.tup []))]) (looko ([6, 54].map fun n => (n, o n)))) K)) := rfl

theorem g_law17_refs_o1_sh {R_o2 : List AOper} {C : Ctx} {I : Nat → Prop} {s : Nat → V} {o : Nat → Option Ob} {K : St → Prop} : opsB C I (⟨some 28, .pick (.t 22) (.c (.d (.bool true))) (.t 27), [], [], none, none⟩ ::
     ⟨some 29, .mv (.t 28), [], [], none, (some ([4, 6, 12, 13, 14, 29], (some [6, 54])))⟩ ::
     R_o2) (St.mk s o) K =
 (demand (pickV (s 22) (V.d (.bool true)) (s 27)) (fun x1 =>
opsB C I R_o2 (St.mk (look [(4, (s 4)), (6, (s 6)), (12, (s 12)), (13, (s 13)), (14, (s 14)), (29, x1)]) (looko ([6, 54].map fun n => (n, o n)))) K)) := rfl

theorem g_law17_refs_o0_sh {R_o1 : List AOper} {C : Ctx} {I : Nat → Prop} {s : Nat → V} {o : Nat → Option Ob} {K : St → Prop} : opsB C I (⟨some 23, .faddr 5 (.t 6), [], [], (some (4, 22, false)), none⟩ ::
     ⟨some 24, .faddr 0 (.t 23), [], [], (some (4, 22, false)), none⟩ ::
     ⟨some 25, .load none (.t 24), [], [], (some (4, 22, false)), none⟩ ::
     ⟨some 26, .len (.t 25), [], [], (some (4, 22, false)), none⟩ ::
     ⟨some 27, .bin .gtr (.t 26) (.c (.d (.int .i64 70))), [], [], (some (4, 22, false)), (some ([4, 6, 12, 13, 14, 22, 27], (some [6, 54])))⟩ ::
     R_o1) (St.mk s o) K =
 (guardK (s 22) false
 (demand (faddrV 5 (s 6)) (fun x1 =>
demand (faddrV 0 x1) (fun x2 =>
demand (loadV o none x2) (fun x3 =>
demand (lenV o x3) (fun x4 =>
demand (binV BinOp.gtr x4 (V.d (.int .i64 70))) (fun x5 =>
opsB C I R_o1 (St.mk (look [(4, (s 4)), (6, (s 6)), (12, (s 12)), (13, (s 13)), (14, (s 14)), (22, (V.d (D.bool false))), (27, x5)]) (looko ([6, 54].map fun n => (n, o n)))) K))))))
 (opsB C I R_o1 (St.mk (look [(4, (s 4)), (6, (s 6)), (12, (s 12)), (13, (s 13)), (14, (s 14)), (22, (V.d (D.bool true))), (27, (V.tup []))]) (looko ([6, 54].map fun n => (n, o n)))) K)
 (opsB C I R_o1 (St.mk (look [(4, (s 4)), (6, (s 6)), (12, (s 12)), (13, (s 13)), (14, (s 14)), (22, (V.tup [])), (27, (V.tup []))]) (looko ([6, 54].map fun n => (n, o n)))) K)) := rfl

theorem g_law17_refs_c0_sh {C : Ctx} {I : Nat → Prop} {s : Nat → V} {o : Nat → Option Ob} {Q : Ex → St → Prop} : wpB C I (.cond (.t 49) (.seq (.region [2, 3] (some [54]) none
     [⟨some 2, .mv (.c (.cap0)), [], [], none, none⟩,
      ⟨some 3, .mv (.c (.d (.bool false))), [], [], none, none⟩])
  (.ret))
 (.skip)) (St.mk s o) Q =
 (condK (s 49)
 (Q .ret (St.mk (look [(2, (V.cap0)), (3, (V.d (.bool false)))]) (looko ([54].map fun n => (n, o n)))))
 (Q .normal (St.mk s o))) := rfl

theorem g_law17_refs_c1_sh {C : Ctx} {I : Nat → Prop} {s : Nat → V} {o : Nat → Option Ob} {Q : Ex → St → Prop} : wpB C I (.region [4, 12, 13, 14] (some [54]) none
   [⟨some 50, .mv (.t 4), [], [], none, none⟩,
    ⟨some 51, .load (some 22) (.t 6), [], [], none, none⟩,
    ⟨some 52, .call 12 [(.t 51)], [], [], none, none⟩,
    ⟨some 53, .bsl none 22 [] 1 [(0, (.t 52))], [], [], none, none⟩,
    ⟨some 54, .app (some 54) 22 256 (.t 50) (.t 53), [], [], none, none⟩,
    ⟨some 4, .mv (.t 54), [], [], none, none⟩]) (St.mk s o) Q =
 (demand (loadV o (some 22) (s 6)) (fun x1 =>
callK C I (St.mk (upd (upd s 50 (s 4)) 51 x1) o) (some 52) 12 [x1] (fun r2 or2 =>
lstK (partsN 22 [r2]) (fun es3 =>
lstK (readD or2 (V.d (D.sl es3))) (fun ys4 => (∀ e ∈ ys4, e.length = 22) ∧ appK (s 4)
 (ys4.length * 256 ≤ 140737488355328 ∧ ys4.length ≤ 140737488355328 ∧ ¬ I 54 ∧ Fresh (St.mk (upd (upd (upd (upd s 50 (s 4)) 51 x1) 52 r2) 53 (V.d (D.sl es3))) or2) 54 (some 54) ∧
Q .normal (St.mk (look [(4, (V.own 54)), (12, (s 12)), (13, (s 13)), (14, (s 14))]) (looko ([54].map fun n => (n, (upd or2 54 (some (Ob.row 22 ys4))) n)))))
 (fun m5 => ¬ I m5 ∧ rowK (or2 m5) (fun z6 es7 => z6 = 22 ∧ (es7.length + ys4.length) * 256 ≤ 140737488355328 ∧ es7.length + ys4.length ≤ 140737488355328 ∧
Q .normal (St.mk (look [(4, (V.own m5)), (12, ((fun t => scrubV m5 (s t)) 12)), (13, ((fun t => scrubV m5 (s t)) 13)), (14, ((fun t => scrubV m5 (s t)) 14))]) (looko ([54].map fun n => (n, (upd (fun n => (or2 n).map (Ob.scrub m5)) m5 (some (Ob.row 22 (es7 ++ ys4)))) n))))))))))) := rfl

theorem g_law17_refs_c2_sh {R_o0 : List AOper} {R_c0 : ACode} {R_c1 : ACode} {C : Ctx} {I : Nat → Prop} {s : Nat → V} {o : Nat → Option Ob} {Q : Ex → St → Prop} : wpB C I (.seq (.seq (.region [4, 6, 12, 13, 14, 49] (some [6, 54]) none
     (⟨some 18, .faddr 21 (.t 6), [], [], none, none⟩ ::
      ⟨some 19, .load none (.t 18), [], [], none, none⟩ ::
      ⟨some 20, .len (.t 19), [], [], none, none⟩ ::
      ⟨some 21, .bin .gtr (.t 20) (.c (.d (.int .i64 40))), [], [], none, none⟩ ::
      ⟨some 22, .mv (.t 21), [], [], none, (some ([4, 6, 12, 13, 14, 22], (some [6, 54])))⟩ ::
      R_o0))
  (R_c0))
 (R_c1)) (St.mk s o) Q =
 (demand (faddrV 21 (s 6)) (fun x1 =>
demand (loadV o none x1) (fun x2 =>
demand (lenV o x2) (fun x3 =>
demand (binV BinOp.gtr x3 (V.d (.int .i64 40))) (fun x4 =>
opsB C I R_o0 (St.mk (look [(4, (s 4)), (6, (s 6)), (12, (s 12)), (13, (s 13)), (14, (s 14)), (22, x4)]) (looko ([6, 54].map fun n => (n, o n)))) (fun st => (seqK (fun st => wpB C I R_c0 st (seqK (fun st => wpB C I R_c1 st Q) Q)) (seqK (fun st => wpB C I R_c1 st Q) Q)) .normal (St.trim st [4, 6, 12, 13, 14, 49] (some [6, 54])))))))) := rfl

theorem g_law17_refs_c3_sh {C : Ctx} {I : Nat → Prop} {s : Nat → V} {o : Nat → Option Ob} {Q : Ex → St → Prop} : wpB C I (.region [4, 12, 13, 14] (some [54]) none
   [⟨some 55, .bin .add (.t 14) (.c (.d (.int .i64 1))), [], [], none, none⟩,
    ⟨some 14, .mv (.t 55), [], [], none, none⟩]) (St.mk s o) Q =
 (demand (binV BinOp.add (s 14) (V.d (.int .i64 1))) (fun x1 =>
Q .normal (St.mk (look [(4, (s 4)), (12, (s 12)), (13, (s 13)), (14, x1)]) (looko ([54].map fun n => (n, o n)))))) := rfl

theorem g_law17_refs_l0_sh {R_l0 : ACode} {R_c2 : ACode} {R_c3 : ACode} {C : Ctx} {I : Nat → Prop} {s : Nat → V} {o : Nat → Option Ob} {Q : Ex → St → Prop} (hL : R_l0 = .loop [4, 12, 13, 14] (some [54]) (.seq (.region [4, 12, 13, 14, 15] (some [54]) none
     [⟨some 15, .bin .lss (.t 14) (.t 13), [], [], none, none⟩])
  (.seq (.cond (.t 15) (.skip)
    (.exit 0))
   (.seq (.block 1 [4, 12, 13, 14] (some [54]) (.seq (.region [4, 6, 12, 13, 14] (some [6, 54]) none
         [⟨some 16, .iaddr 22 (.t 12) (.t 14), [], [], none, none⟩,
          ⟨some 17, .load (some 22) (.t 16), [], [], none, none⟩,
          ⟨some 6, .alloc 6 [.d (.int .i64 0), .d (.int .i64 0), .d (.int .i64 0), .d (.int .i64 0), .d (.int .i64 0), .cap0, .d (.int .i64 0), .d (.int .i64 0), .d (.int .i64 0), .d (.int .i64 0), .d (.int .i64 0), .d (.int .i64 0), .d (.int .i64 0), .d (.int .i64 0), .d (.int .i64 0), .d (.int .i64 0), .d (.int .i64 0), .d (.int .i64 0), .cap0, .cap0, .cap0, .cap0], [], [], none, none⟩,
          ⟨none, .store 22 (.t 6) (.t 17), [], [], none, none⟩])
      (R_c2)))
    (R_c3)))))
 (h : demand (binV BinOp.lss (s 14) (s 13)) (fun x1 =>
condK x1
 (demand (iaddrV (looko ([54].map fun n => (n, o n))) 22 (s 12) (s 14)) (fun x2 =>
demand (loadV (looko ([54].map fun n => (n, o n))) (some 22) x2) (fun x3 =>
(¬ I 6 ∧ Fresh (St.mk (upd (upd (look [(4, (s 4)), (12, (s 12)), (13, (s 13)), (14, (s 14)), (15, x1)]) 16 x2) 17 x3) (looko ([54].map fun n => (n, o n)))) 6 (some 6) ∧ V.refsL 6 [V.d (.int .i64 0), V.d (.int .i64 0), V.d (.int .i64 0), V.d (.int .i64 0), V.d (.int .i64 0), V.cap0, V.d (.int .i64 0), V.d (.int .i64 0), V.d (.int .i64 0), V.d (.int .i64 0), V.d (.int .i64 0), V.d (.int .i64 0), V.d (.int .i64 0), V.d (.int .i64 0), V.d (.int .i64 0), V.d (.int .i64 0), V.d (.int .i64 0), V.d (.int .i64 0), V.cap0, V.cap0, V.cap0, V.cap0] = false ∧
storeK (V.ptr 6 0) (cellsV x3) 22 (upd (looko ([54].map fun n => (n, o n))) 6 (some (Ob.box [V.d (.int .i64 0), V.d (.int .i64 0), V.d (.int .i64 0), V.d (.int .i64 0), V.d (.int .i64 0), V.cap0, V.d (.int .i64 0), V.d (.int .i64 0), V.d (.int .i64 0), V.d (.int .i64 0), V.d (.int .i64 0), V.d (.int .i64 0), V.d (.int .i64 0), V.d (.int .i64 0), V.d (.int .i64 0), V.d (.int .i64 0), V.d (.int .i64 0), V.d (.int .i64 0), V.cap0, V.cap0, V.cap0, V.cap0]))) (fun m4 ob5 =>
wpB C I R_c2 (St.mk (look [(4, (s 4)), (6, (V.ptr 6 0)), (12, (s 12)), (13, (s 13)), (14, (s 14))]) (looko ([6, 54].map fun n => (n, (upd (upd (looko ([54].map fun n => (n, o n))) 6 (some (Ob.box [V.d (.int .i64 0), V.d (.int .i64 0), V.d (.int .i64 0), V.d (.int .i64 0), V.d (.int .i64 0), V.cap0, V.d (.int .i64 0), V.d (.int .i64 0), V.d (.int .i64 0), V.d (.int .i64 0), V.d (.int .i64 0), V.d (.int .i64 0), V.d (.int .i64 0), V.d (.int .i64 0), V.d (.int .i64 0), V.d (.int .i64 0), V.d (.int .i64 0), V.d (.int .i64 0), V.cap0, V.cap0, V.cap0, V.cap0]))) m4 (some ob5)) n)))) (blockK 1 [4, 12, 13, 14] (some [54]) (seqK (fun st => wpB C I R_c3 st (seqK (fun s => wpB C I R_l0 s Q) Q)) (seqK (fun s => wpB C I R_l0 s Q) Q))))))))
 (Q (.exit 0) (St.mk (look [(4, (s 4)), (12, (s 12)), (13, (s 13)), (14, (s 14)), (15, x1)]) (looko ([54].map fun n => (n, o n))))))) : wpB C I R_l0 (St.mk s o) Q := w_loopC hL h

theorem g_law17_refs_c4_sh {R_l0 : ACode} {C : Ctx} {I : Nat → Prop} {s : Nat → V} {o : Nat → Option Ob} {Q : Ex → St → Prop} : wpB C I (.block 0 [4] (some [54]) (R_l0)) (St.mk s o) Q =
 (wpB C I R_l0 (St.mk s o) (blockK 0 [4] (some [54]) Q)) := rfl

theorem g_law17_refs_c5_sh {C : Ctx} {I : Nat → Prop} {s : Nat → V} {o : Nat → Option Ob} {Q : Ex → St → Prop} : wpB C I (.seq (.region [2, 3] (some [54]) none
    [⟨some 56, .mv (.t 4), [], [], none, none⟩,
     ⟨some 2, .mv (.t 56), [], [], none, none⟩,
     ⟨some 3, .mv (.c (.d (.bool true))), [], [], none, none⟩])
 (.ret)) (St.mk s o) Q =
 (Q .ret (St.mk (look [(2, (s 4)), (3, (V.d (.bool true)))]) (looko ([54].map fun n => (n, o n))))) := rfl

theorem g_law17_refs_c6_sh {R_c4 : ACode} {R_c5 : ACode} {C : Ctx} {I : Nat → Prop} {s : Nat → V} {o : Nat → Option Ob} {Q : Ex → St → Prop} : wpB C I (.seq (.region [1, 4] (some [1, 54]) none
    [⟨some 4, .mv (.c (.cap0)), [], [], none, none⟩])
 (.seq (.seq (.region [4, 12, 13, 14] (some [54]) none
      [⟨some 11, .faddr 0 (.t 1), [], [], none, none⟩,
       ⟨some 12, .load none (.t 11), [], [], none, none⟩,
       ⟨some 13, .len (.t 12), [], [], none, none⟩,
       ⟨some 14, .mv (.c (.d (.int .i64 0))), [], [], none, none⟩])
   (R_c4))
  (R_c5))) (St.mk s o) Q =
 (demand (faddrV 0 (s 1)) (fun x1 =>
demand (loadV (looko ([1, 54].map fun n => (n, o n))) none x1) (fun x2 =>
demand (lenV (looko ([1, 54].map fun n => (n, o n))) x2) (fun x3 =>
wpB C I R_c4 (St.mk (look [(4, (V.cap0)), (12, x2), (13, x3), (14, (V.d (.int .i64 0)))]) (looko ([54].map fun n => (n, o n)))) (seqK (fun st => wpB C I R_c5 st Q) Q))))) := rfl

theorem g_law17_refs_code_sh {R_c6 : ACode} {C : Ctx} {I : Nat → Prop} {s : Nat → V} {o : Nat → Option Ob} {Q : Ex → St → Prop} : wpB C I (.seq (.region [1] (some [1]) none
    [⟨some 1, .box 1 1 (.t 0), [], [], none, none⟩,
     ⟨some 2, .mv (.c (.cap0)), [], [], none, none⟩,
     ⟨some 3, .mv (.c (.d (.bool false))), [], [], none, none⟩])
 (.seq (.seq (.region [1, 10] (some [1]) none
      [⟨some 7, .faddr 0 (.t 1), [], [], none, none⟩,
       ⟨some 8, .load none (.t 7), [], [], none, none⟩,
       ⟨some 9, .len (.t 8), [], [], none, none⟩,
       ⟨some 10, .bin .gtr (.t 9) (.c (.d (.int .i64 40))), [], [], none, none⟩])
   (.cond (.t 10) (.seq (.region [2, 3] (some [54]) none
        [⟨some 2, .mv (.c (.cap0)), [], [], none, none⟩,
         ⟨some 3, .mv (.c (.d (.bool false))), [], [], none, none⟩])
     (.ret))
    (.skip)))
  (R_c6))) (St.mk s o) Q =
 (lstK (cellsV (s 0)) (fun c1 => c1.length = 1 ∧ ¬ I 1 ∧ Fresh (St.mk s o) 1 (some 1) ∧ V.refsL 1 c1 = false ∧
demand (faddrV 0 (V.ptr 1 0)) (fun x2 =>
demand (loadV (looko ([1].map fun n => (n, (upd o 1 (some (Ob.box c1))) n))) none x2) (fun x3 =>
demand (lenV (looko ([1].map fun n => (n, (upd o 1 (some (Ob.box c1))) n))) x3) (fun x4 =>
demand (binV BinOp.gtr x4 (V.d (.int .i64 40))) (fun x5 =>
condK x5
 (Q .ret (St.mk (look [(2, (V.cap0)), (3, (V.d (.bool false)))]) (looko ([54].map fun n => (n, (looko ([1].map fun n => (n, (upd o 1 (some (Ob.box c1))) n))) n)))))
 (wpB C I R_c6 (St.mk (look [(1, (V.ptr 1 0)), (10, x5)]) (looko ([1].map fun n => (n, (upd o 1 (some (Ob.box c1))) n)))) Q))))))) := rfl

theorem g_law17_awake_o15_sh {C : Ctx} {I : Nat → Prop} {s : Nat → V} {o : Nat → Option Ob} {K : St → Prop} : opsB C I [⟨some 67, .pick (.t 63) (.t 66) (.c (.d (.bool false))), [], [], none, none⟩,
     ⟨some 0, .mv (.t 67), [], [], none, none⟩] (St.mk s o) K =
 (demand (pickV (s 63) (s 66) (V.d (.bool false))) (fun x1 =>
K (St.mk (upd (upd s 67 x1) 0 x1) o))) := rfl

theorem g_law17_awake_o14_sh {R_o15 : List AOper} {C : Ctx} {I : Nat → Prop} {s : Nat → V} {o : Nat → Option Ob} {K : St → Prop} : opsB C I (⟨some 64, .load (some 1) (.t 4), [], [], (some (35, 63, true)), none⟩ ::
     ⟨some 65, .call 9 [(.t 64), (.c (.d (.int .i64 1)))], [], [], (some (35, 63, true)), none⟩ ::
     ⟨some 66, .un .not (.t 65), [], [], (some (35, 63, true)), (some ([63, 66], (some [])))⟩ ::
     R_o15) (St.mk s o) K =
 (guardK (s 63) true
 (demand (loadV o (some 1) (s 4)) (fun x1 =>
callK C I (St.mk (upd (upd (upd s 63 (V.d (D.bool true))) 64 x1) 63 (V.d (D.bool true))) o) (some 65) 9 [x1, (V.d (.int .i64 1))] (fun r2 or2 =>
demand (unV UnOp.not r2) (fun x3 =>
opsB C I R_o15 (St.mk (look [(63, (V.d (D.bool true))), (66, x3)]) (looko ([].map fun n => (n, or2 n)))) K))))
 (opsB C I R_o15 (St.mk (look [(63, (V.d (D.bool false))), (66, (V.tup []))]) (looko ([].map fun n => (n, o n)))) K)
 (opsB C I R_o15 (St.mk (look [(63, (V.tup [])), (66, (V.tup []))]) (looko ([].map fun n => (n, o n)))) K)) := rfl

theorem g_law17_awake_o13_sh {R_o14 : List AOper} {C : Ctx} {I : Nat → Prop} {s : Nat → V} {o : Nat → Option Ob} {K : St → Prop} : opsB C I (⟨some 62, .pick (.t 59) (.t 61) (.c (.d (.bool false))), [], [], none, none⟩ ::
     ⟨some 63, .mv (.t 62), [], [], none, (some ([4, 63], (some [4])))⟩ ::
     R_o14) (St.mk s o) K =
 (demand (pickV (s 59) (s 61) (V.d (.bool false))) (fun x1 =>
opsB C I R_o14 (St.mk (look [(4, (s 4)), (63, x1)]) (looko ([4].map fun n => (n, o n)))) K)) := rfl

theorem g_law17_awake_o12_sh {R_o13 : List AOper} {C : Ctx} {I : Nat → Prop} {s : Nat → V} {o : Nat → Option Ob} {K : St → Prop} : opsB C I (⟨some 60, .load (some 1) (.t 1), [], [], (some (31, 59, true)), none⟩ ::
     ⟨some 61, .call 9 [(.t 60), (.c (.d (.int .i64 0)))], [], [], (some (31, 59, true)), (some ([4, 59, 61], (some [4])))⟩ ::
     R_o13) (St.mk s o) K =
 (guardK (s 59) true
 (demand (loadV o (some 1) (s 1)) (fun x1 =>
callK C I (St.mk (upd (upd (upd s 59 (V.d (D.bool true))) 60 x1) 59 (V.d (D.bool true))) o) (some 61) 9 [x1, (V.d (.int .i64 0))] (fun r2 or2 =>
opsB C I R_o13 (St.mk (look [(4, (s 4)), (59, (V.d (D.bool true))), (61, r2)]) (looko ([4].map fun n => (n, or2 n)))) K)))
 (opsB C I R_o13 (St.mk (look [(4, (s 4)), (59, (V.d (D.bool false))), (61, (V.tup []))]) (looko ([4].map fun n => (n, o n)))) K)
 (opsB C I R_o13 (St.mk (look [(4, (s 4)), (59, (V.tup [])), (61, (V.tup []))]) (looko ([4].map fun n => (n, o n)))) K)) := rfl

theorem g_law17_awake_o11_sh {R_o12 : List AOper} {C : Ctx} {I : Nat → Prop} {s : Nat → V} {o : Nat → Option Ob} {K : St → Prop} : opsB C I (⟨some 58, .pick (.t 55) (.t 57) (.c (.d (.bool false))), [], [], none, none⟩ ::
     ⟨some 59, .mv (.t 58), [], [], none, (some ([1, 4, 59], (some [1, 4])))⟩ ::
     R_o12) (St.mk s o) K =
 (demand (pickV (s 55) (s 57) (V.d (.bool false))) (fun x1 =>
opsB C I R_o12 (St.mk (look [(1, (s 1)), (4, (s 4)), (59, x1)]) (looko ([1, 4].map fun n => (n, o n)))) K)) := rfl

theorem g_law17_awake_o10_sh {R_o11 : List AOper} {C : Ctx} {I : Nat → Prop} {s : Nat → V} {o : Nat → Option Ob} {K : St → Prop} : opsB C I (⟨some 56, .mv (.t 7), [], [], (some (27, 55, true)), none⟩ ::
     ⟨some 57, .bin .eql (.t 56) (.c (.d (.int .i64 6))), [], [], (some (27, 55, true)), (some ([1, 4, 55, 57], (some [1, 4])))⟩ ::
     R_o11) (St.mk s o) K =
 (guardK (s 55) true
 (demand (binV BinOp.eql (s 7) (V.d (.int .i64 6))) (fun x1 =>
opsB C I R_o11 (St.mk (look [(1, (s 1)), (4, (s 4)), (55, (V.d (D.bool true))), (57, x1)]) (looko ([1, 4].map fun n => (n, o n)))) K))
 (opsB C I R_o11 (St.mk (look [(1, (s 1)), (4, (s 4)), (55, (V.d (D.bool false))), (57, (V.tup []))]) (looko ([1, 4].map fun n => (n, o n)))) K)
 (opsB C I R_o11 (St.mk (look [(1, (s 1)), (4, (s 4)), (55, (V.tup [])), (57, (V.tup []))]) (looko ([1, 4].map fun n => (n, o n)))) K)) := rfl

theorem g_law17_awake_o9_sh {R_o10 : List AOper} {C : Ctx} {I : Nat → Prop} {s : Nat → V} {o : Nat → Option Ob} {K : St → Prop} : opsB C I (⟨some 54, .pick (.t 50) (.t 53) (.c (.d (.bool false))), [], [], none, none⟩ ::
     ⟨some 55, .mv (.t 54), [], [], none, (some ([1, 4, 7, 55], (some [1, 4])))⟩ ::
     R_o10) (St.mk s o) K =
 (demand (pickV (s 50) (s 53) (V.d (.bool false))) (fun x1 =>
opsB C I R_o10 (St.mk (look [(1, (s 1)), (4, (s 4)), (7, (s 7)), (55, x1)]) (looko ([1, 4].map fun n => (n, o n)))) K)) := rfl

theorem g_law17_awake_o8_sh {R_o9 : List AOper} {C : Ctx} {I : Nat → Prop} {s : Nat → V} {o : Nat → Option Ob} {K : St → Prop} : opsB C I (⟨some 51, .load (some 1) (.t 4), [], [], (some (22, 50, true)), none⟩ ::
     ⟨some 52, .call 8 [(.t 51), (.c (.d (.int .i64 1))), (.c (.d (.int .i64 24276)))], [], [], (some (22, 50, true)), none⟩ ::
     ⟨some 53, .bin .eql (.t 52) (.c (.d (.int .i64 (-1)))), [], [], (some (22, 50, true)), (some ([1, 4, 7, 50, 53], (some [1, 4])))⟩ ::
     R_o9) (St.mk s o) K =
 (guardK (s 50) true
 (demand (loadV o (some 1) (s 4)) (fun x1 =>
callK C I (St.mk (upd (upd (upd s 50 (V.d (D.bool true))) 51 x1) 50 (V.d (D.bool true))) o) (some 52) 8 [x1, (V.d (.int .i64 1)), (V.d (.int .i64 24276))] (fun r2 or2 =>
demand (binV BinOp.eql r2 (V.d (.int .i64 (-1)))) (fun x3 =>
opsB C I R_o9 (St.mk (look [(1, (s 1)), (4, (s 4)), (7, (s 7)), (50, (V.d (D.bool true))), (53, x3)]) (looko ([1, 4].map fun n => (n, or2 n)))) K))))
 (opsB C I R_o9 (St.mk (look [(1, (s 1)), (4, (s 4)), (7, (s 7)), (50, (V.d (D.bool false))), (53, (V.tup []))]) (looko ([1, 4].map fun n => (n, o n)))) K)
 (opsB C I R_o9 (St.mk (look [(1, (s 1)), (4, (s 4)), (7, (s 7)), (50, (V.tup [])), (53, (V.tup []))]) (looko ([1, 4].map fun n => (n, o n)))) K)) := rfl

theorem g_law17_awake_o7_sh {R_o8 : List AOper} {C : Ctx} {I : Nat → Prop} {s : Nat → V} {o : Nat → Option Ob} {K : St → Prop} : opsB C I (⟨some 49, .pick (.t 45) (.t 48) (.c (.d (.bool false))), [], [], none, none⟩ ::
     ⟨some 50, .mv (.t 49), [], [], none, (some ([1, 4, 7, 50], (some [1, 4])))⟩ ::
     R_o8) (St.mk s o) K =
 (demand (pickV (s 45) (s 48) (V.d (.bool false))) (fun x1 =>
opsB C I R_o8 (St.mk (look [(1, (s 1)), (4, (s 4)), (7, (s 7)), (50, x1)]) (looko ([1, 4].map fun n => (n, o n)))) K)) := rfl

theorem g_law17_awake_o6_sh {R_o7 : List AOper} {C : Ctx} {I : Nat → Prop} {s : Nat → V} {o : Nat → Option Ob} {K : St → Prop} : opsB C I (⟨some 46, .load (some 1) (.t 1), [], [], (some (17, 45, true)), none⟩ ::
     ⟨some 47, .call 8 [(.t 46), (.c (.d (.int .i64 1))), (.c (.d (.int .i64 24276)))], [], [], (some (17, 45, true)), none⟩ ::
     ⟨some 48, .bin .eql (.t 47) (.c (.d (.int .i64 0))), [], [], (some (17, 45, true)), (some ([1, 4, 7, 45, 48], (some [1, 4])))⟩ ::
     R_o7) (St.mk s o) K =
 (guardK (s 45) true
 (demand (loadV o (some 1) (s 1)) (fun x1 =>
callK C I (St.mk (upd (upd (upd s 45 (V.d (D.bool true))) 46 x1) 45 (V.d (D.bool true))) o) (some 47) 8 [x1, (V.d (.int .i64 1)), (V.d (.int .i64 24276))] (fun r2 or2 =>
demand (binV BinOp.eql r2 (V.d (.int .i64 0))) (fun x3 =>
opsB C I R_o7 (St.mk (look [(1, (s 1)), (4, (s 4)), (7, (s 7)), (45, (V.d (D.bool true))), (48, x3)]) (looko ([1, 4].map fun n => (n, or2 n)))) K))))
 (opsB C I R_o7 (St.mk (look [(1, (s 1)), (4, (s 4)), (7, (s 7)), (45, (V.d (D.bool false))), (48, (V.tup []))]) (looko ([1, 4].map fun n => (n, o n)))) K)
 (opsB C I R_o7 (St.mk (look [(1, (s 1)), (4, (s 4)), (7, (s 7)), (45, (V.tup [])), (48, (V.tup []))]) (looko ([1, 4].map fun n => (n, o n)))) K)) := rfl

theorem g_law17_awake_o5_sh {R_o6 : List AOper} {C : Ctx} {I : Nat → Prop} {s : Nat → V} {o : Nat → Option Ob} {K : St → Prop} : opsB C I (⟨some 44, .pick (.t 41) (.t 43) (.c (.d (.bool false))), [], [], none, none⟩ ::
     ⟨some 45, .mv (.t 44), [], [], none, (some ([1, 4, 7, 45], (some [1, 4])))⟩ ::
     R_o6) (St.mk s o) K =
 (demand (pickV (s 41) (s 43) (V.d (.bool false))) (fun x1 =>
opsB C I R_o6 (St.mk (look [(1, (s 1)), (4, (s 4)), (7, (s 7)), (45, x1)]) (looko ([1, 4].map fun n => (n, o n)))) K)) := rfl

theorem g_law17_awake_o4_sh {R_o5 : List AOper} {C : Ctx} {I : Nat → Prop} {s : Nat → V} {o : Nat → Option Ob} {K : St → Prop} : opsB C I (⟨some 42, .mv (.t 5), [], [], (some (13, 41, true)), none⟩ ::
     ⟨some 43, .bin .eql (.t 42) (.c (.d (.int .i64 0))), [], [], (some (13, 41, true)), (some ([1, 4, 7, 41, 43], (some [1, 4])))⟩ ::
     R_o5) (St.mk s o) K =
 (guardK (s 41) true
 (demand (binV BinOp.eql (s 5) (V.d (.int .i64 0))) (fun x1 =>
opsB C I R_o5 (St.mk (look [(1, (s 1)), (4, (s 4)), (7, (s 7)), (41, (V.d (D.bool true))), (43, x1)]) (looko ([1, 4].map fun n => (n, o n)))) K))
 (opsB C I R_o5 (St.mk (look [(1, (s 1)), (4, (s 4)), (7, (s 7)), (41, (V.d (D.bool false))), (43, (V.tup []))]) (looko ([1, 4].map fun n => (n, o n)))) K)
 (opsB C I R_o5 (St.mk (look [(1, (s 1)), (4, (s 4)), (7, (s 7)), (41, (V.tup [])), (43, (V.tup []))]) (looko ([1, 4].map fun n => (n, o n)))) K)) := rfl

theorem g_law17_awake_o3_sh {R_o4 : List AOper} {C : Ctx} {I : Nat → Prop} {s : Nat → V} {o : Nat → Option Ob} {K : St → Prop} : opsB C I (⟨some 40, .pick (.t 35) (.t 39) (.c (.d (.bool false))), [], [], none, none⟩ ::
     ⟨some 41, .mv (.t 40), [], [], none, (some ([1, 4, 5, 7, 41], (some [1, 4])))⟩ ::
     R_o4) (St.mk s o) K =
 (demand (pickV (s 35) (s 39) (V.d (.bool false))) (fun x1 =>
opsB C I R_o4 (St.mk (look [(1, (s 1)), (4, (s 4)), (5, (s 5)), (7, (s 7)), (41, x1)]) (looko ([1, 4].map fun n => (n, o n)))) K)) := rfl

theorem g_law17_awake_o2_sh {R_o3 : List AOper} {C : Ctx} {I : Nat → Prop} {s : Nat → V} {o : Nat → Option Ob} {K : St → Prop} : opsB C I (⟨some 36, .faddr 3 (.t 3), [], [], (some (7, 35, true)), none⟩ ::
     ⟨some 37, .load none (.t 36), [], [], (some (7, 35, true)), none⟩ ::
     ⟨some 38, .len (.t 37), [], [], (some (7, 35, true)), none⟩ ::
     ⟨some 39, .bin .eql (.t 38) (.c (.d (.int .i64 1))), [], [], (some (7, 35, true)), (some ([1, 4, 5, 7, 35, 39], (some [1, 4])))⟩ ::
     R_o3) (St.mk s o) K =
 (guardK (s 35) true
 (demand (faddrV 3 (s 3)) (fun x1 =>
demand (loadV o none x1) (fun x2 =>
demand (lenV o x2) (fun x3 =>
demand (binV BinOp.eql x3 (V.d (.int .i64 1))) (fun x4 =>
opsB C I R_o3 (St.mk (look [(1, (s 1)), (4, (s 4)), (5, (s 5)), (7, (s 7)), (35, (V.d (D.bool true))), (39, x4)]) (looko ([1, 4].map fun n => (n, o n)))) K)))))
 (opsB C I R_o3 (St.mk (look [(1, (s 1)), (4, (s 4)), (5, (s 5)), (7, (s 7)), (35, (V.d (D.bool false))), (39, (V.tup []))]) (looko ([1, 4].map fun n => (n, o n)))) K)
 (opsB C I R_o3 (St.mk (look [(1, (s 1)), (4, (s 4)), (5, (s 5)), (7, (s 7)), (35, (V.tup [])), (39, (V.tup []))]) (looko ([1, 4].map fun n => (n, o n)))) K)) := rfl

theorem g_law17_awake_o1_sh {R_o2 : List AOper} {C : Ctx} {I : Nat → Prop} {s : Nat → V} {o : Nat → Option Ob} {K : St → Prop} : opsB C I (⟨some 34, .pick (.t 30) (.t 33) (.c (.d (.bool false))), [], [], none, none⟩ ::
     ⟨some 35, .mv (.t 34), [], [], none, (some ([1, 3, 4, 5, 7, 35], (some [1, 3, 4])))⟩ ::
     R_o2) (St.mk s o) K =
 (demand (pickV (s 30) (s 33) (V.d (.bool false))) (fun x1 =>
opsB C I R_o2 (St.mk (look [(1, (s 1)), (3, (s 3)), (4, (s 4)), (5, (s 5)), (7, (s 7)), (35, x1)]) (looko ([1, 3, 4].map fun n => (n, o n)))) K)) := rfl

theorem g_law17_awake_o0_sh {R_o1 : List AOper} {C : Ctx} {I : Nat → Prop} {s : Nat → V} {o : Nat → Option Ob} {K : St → Prop} : opsB C I (⟨some 31, .faddr 0 (.t 3), [], [], (some (2, 30, true)), none⟩ ::
     ⟨some 32, .load none (.t 31), [], [], (some (2, 30, true)), none⟩ ::
     ⟨some 33, .bin .eql (.t 32) (.c (.d (.int .i64 7))), [], [], (some (2, 30, true)), (some ([1, 3, 4, 5, 7, 30, 33], (some [1, 3, 4])))⟩ ::
     R_o1) (St.mk s o) K =
 (guardK (s 30) true
 (demand (faddrV 0 (s 3)) (fun x1 =>
demand (loadV o none x1) (fun x2 =>
demand (binV BinOp.eql x2 (V.d (.int .i64 7))) (fun x3 =>
opsB C I R_o1 (St.mk (look [(1, (s 1)), (3, (s 3)), (4, (s 4)), (5, (s 5)), (7, (s 7)), (30, (V.d (D.bool true))), (33, x3)]) (looko ([1, 3, 4].map fun n => (n, o n)))) K))))
 (opsB C I R_o1 (St.mk (look [(1, (s 1)), (3, (s 3)), (4, (s 4)), (5, (s 5)), (7, (s 7)), (30, (V.d (D.bool false))), (33, (V.tup []))]) (looko ([1, 3, 4].map fun n => (n, o n)))) K)
 (opsB C I R_o1 (St.mk (look [(1, (s 1)), (3, (s 3)), (4, (s 4)), (5, (s 5)), (7, (s 7)), (30, (V.tup [])), (33, (V.tup []))]) (looko ([1, 3, 4].map fun n => (n, o n)))) K)) := rfl

theorem g_law17_awake_c0_sh {C : Ctx} {I : Nat → Prop} {s : Nat → V} {o : Nat → Option Ob} {Q : Ex → St → Prop} : wpB C I (.ret) (St.mk s o) Q =
 (Q .ret (St.mk s o)) := rfl

theorem g_law17_awake_c1_sh {R_o0 : List AOper} {R_c0 : ACode} {C : Ctx} {I : Nat → Prop} {s : Nat → V} {o : Nat → Option Ob} {Q : Ex → St → Prop} : wpB C I (.seq (.region [0] (some []) none
    (⟨some 28, .mv (.t 2), [], [], none, none⟩ ::
     ⟨some 29, .bin .eql (.t 28) (.c (.d (.int .i64 0))), [], [], none, none⟩ ::
     ⟨some 30, .mv (.t 29), [], [], none, (some ([1, 3, 4, 5, 7, 30], (some [1, 3, 4])))⟩ ::
     R_o0))
 (R_c0)) (St.mk s o) Q =
 (demand (binV BinOp.eql (s 2) (V.d (.int .i64 0))) (fun x1 =>
opsB C I R_o0 (St.mk (look [(1, (s 1)), (3, (s 3)), (4, (s 4)), (5, (s 5)), (7, (s 7)), (30, x1)]) (looko ([1, 3, 4].map fun n => (n, o n)))) (fun st => (seqK (fun st => wpB C I R_c0 st Q) Q) .normal (St.trim st [0] (some []))))) := rfl

theorem g_law17_awake_c2_sh {R_c1 : ACode} {C : Ctx} {I : Nat → Prop} {s : Nat → V} {o : Nat → Option Ob} {Q : Ex → St → Prop} : wpB C I (.seq (.region [1, 2, 3, 4, 5, 7] (some [1, 3, 4]) none
    [⟨some 23, .load (some 1) (.t 1), [], [], none, none⟩,
     ⟨some 24, .build [.d (.int .i64 0), .d (.int .i64 0), .d (.int .i64 0), .d (.int .i64 0), .d (.int .i64 0), .cap0, .d (.int .i64 0), .d (.int .i64 0), .d (.int .i64 0), .d (.int .i64 0), .d (.int .i64 0), .d (.int .i64 0), .d (.int .i64 0), .d (.int .i64 0), .d (.int .i64 0), .d (.int .i64 0), .d (.int .i64 0), .d (.int .i64 0), .cap0, .cap0, .cap0, .cap0] [(1, 1, (.c (.d (.int .i64 24276)))), (2, 1, (.c (.d (.int .i64 1))))], [], [], none, none⟩,
     ⟨some 25, .call 5 [(.t 23), (.t 24)], [], [], none, none⟩,
     ⟨some 22, .mv (.t 25), [], [], none, none⟩,
     ⟨some 26, .ext (.t 22) 0, [], [], none, none⟩,
     ⟨some 27, .ext (.t 22) 1, [], [], none, none⟩,
     ⟨some 6, .alloc 6 [.cap0], [], [], none, none⟩,
     ⟨none, .store 1 (.t 6) (.t 26), [], [], none, none⟩,
     ⟨some 7, .mv (.t 27), [], [], none, none⟩])
 (R_c1)) (St.mk s o) Q =
 (demand (loadV o (some 1) (s 1)) (fun x1 =>
demand ((buildN [V.d (.int .i64 0), V.d (.int .i64 0), V.d (.int .i64 0), V.d (.int .i64 0), V.d (.int .i64 0), V.cap0, V.d (.int .i64 0), V.d (.int .i64 0), V.d (.int .i64 0), V.d (.int .i64 0), V.d (.int .i64 0), V.d (.int .i64 0), V.d (.int .i64 0), V.d (.int .i64 0), V.d (.int .i64 0), V.d (.int .i64 0), V.d (.int .i64 0), V.d (.int .i64 0), V.cap0, V.cap0, V.cap0, V.cap0] [(1, 1, (V.d (.int .i64 24276))), (2, 1, (V.d (.int .i64 1)))]).map V.agg) (fun x2 =>
callK C I (St.mk (upd (upd s 23 x1) 24 x2) o) (some 25) 5 [x1, x2] (fun r3 or3 =>
demand (extV r3 0) (fun x4 =>
demand (extV r3 1) (fun x5 =>
(¬ I 6 ∧ Fresh (St.mk (upd (upd (upd (upd (upd (upd s 23 x1) 24 x2) 25 r3) 22 r3) 26 x4) 27 x5) or3) 6 (some 6) ∧ V.refsL 6 [V.cap0] = false ∧
storeK (V.ptr 6 0) (cellsV x4) 1 (upd or3 6 (some (Ob.box [V.cap0]))) (fun m6 ob7 =>
wpB C I R_c1 (St.mk (look [(1, (s 1)), (2, (s 2)), (3, (s 3)), (4, (s 4)), (5, (s 5)), (7, x5)]) (looko ([1, 3, 4].map fun n => (n, (upd (upd or3 6 (some (Ob.box [V.cap0]))) m6 (some ob7)) n)))) Q)))))))) := rfl

theorem g_law17_awake_c3_sh {R_c2 : ACode} {C : Ctx} {I : Nat → Prop} {s : Nat → V} {o : Nat → Option Ob} {Q : Ex → St → Prop} : wpB C I (.seq (.region [1, 2, 3, 4, 5] (some [1, 3, 4]) none
    [⟨some 18, .load (some 1) (.t 1), [], [], none, none⟩,
     ⟨some 19, .call 7 [(.t 18), (.c (.d (.int .i64 0)))], [], [], none, none⟩,
     ⟨some 17, .mv (.t 19), [], [], none, none⟩,
     ⟨some 20, .ext (.t 17) 0, [], [], none, none⟩,
     ⟨some 21, .ext (.t 17) 1, [], [], none, none⟩,
     ⟨some 4, .alloc 4 [.cap0], [], [], none, none⟩,
     ⟨none, .store 1 (.t 4) (.t 20), [], [], none, none⟩,
     ⟨some 5, .mv (.t 21), [], [], none, none⟩])
 (R_c2)) (St.mk s o) Q =
 (demand (loadV o (some 1) (s 1)) (fun x1 =>
callK C I (St.mk (upd s 18 x1) o) (some 19) 7 [x1, (V.d (.int .i64 0))] (fun r2 or2 =>
demand (extV r2 0) (fun x3 =>
demand (extV r2 1) (fun x4 =>
(¬ I 4 ∧ Fresh (St.mk (upd (upd (upd (upd (upd s 18 x1) 19 r2) 17 r2) 20 x3) 21 x4) or2) 4 (some 4) ∧ V.refsL 4 [V.cap0] = false ∧
storeK (V.ptr 4 0) (cellsV x3) 1 (upd or2 4 (some (Ob.box [V.cap0]))) (fun m5 ob6 =>
wpB C I R_c2 (St.mk (look [(1, (s 1)), (2, (s 2)), (3, (s 3)), (4, (V.ptr 4 0)), (5, x4)]) (looko ([1, 3, 4].map fun n => (n, (upd (upd or2 4 (some (Ob.box [V.cap0]))) m5 (some ob6)) n)))) Q))))))) := rfl

theorem g_law17_awake_c4_sh {R_c3 : ACode} {C : Ctx} {I : Nat → Prop} {s : Nat → V} {o : Nat → Option Ob} {Q : Ex → St → Prop} : wpB C I (.seq (.region [1, 2, 3] (some [1, 3]) none
    [⟨some 15, .load (some 1) (.t 1), [], [], none, none⟩,
     ⟨some 16, .call 6 [(.t 15), (.c (.d (.int .i64 1))), (.c (.d (.int .i64 2023))), (.c (.d (.int .i64 1)))], [], [], none, none⟩,
     ⟨some 3, .alloc 3 [.d (.int .i64 0), .d (.int .i64 0), .d (.int .i64 0), .cap0, .cap0], [], [], none, none⟩,
     ⟨none, .store 5 (.t 3) (.t 16), [], [], none, none⟩])
 (R_c3)) (St.mk s o) Q =
 (demand (loadV o (some 1) (s 1)) (fun x1 =>
callK C I (St.mk (upd s 15 x1) o) (some 16) 6 [x1, (V.d (.int .i64 1)), (V.d (.int .i64 2023)), (V.d (.int .i64 1))] (fun r2 or2 =>
(¬ I 3 ∧ Fresh (St.mk (upd (upd s 15 x1) 16 r2) or2) 3 (some 3) ∧ V.refsL 3 [V.d (.int .i64 0), V.d (.int .i64 0), V.d (.int .i64 0), V.cap0, V.cap0] = false ∧
storeK (V.ptr 3 0) (cellsV r2) 5 (upd or2 3 (some (Ob.box [V.d (.int .i64 0), V.d (.int .i64 0), V.d (.int .i64 0), V.cap0, V.cap0]))) (fun m3 ob4 =>
wpB C I R_c3 (St.mk (look [(1, (s 1)), (2, (s 2)), (3, (V.ptr 3 0))]) (looko ([1, 3].map fun n => (n, (upd (upd or2 3 (some (Ob.box [V.d (.int .i64 0), V.d (.int .i64 0), V.d (.int .i64 0), V.cap0, V.cap0]))) m3 (some ob4)) n)))) Q))))) := rfl

theorem g_law17_awake_code_sh {R_c4 : ACode} {C : Ctx} {I : Nat → Prop} {s : Nat → V} {o : Nat → Option Ob} {Q : Ex → St → Prop} : wpB C I (.seq (.region [] (some []) none
    [⟨some 0, .mv (.c (.d (.bool false))), [], [], none, none⟩])
 (.seq (.region [1, 2] (some [1]) none
     [⟨some 9, .build [.cap0] [], [], [], none, none⟩,
      ⟨some 10, .build [.cap0, .d (.int .i64 0), .d (.int .i64 0), .d (.int .i64 0), .d (.int .i64 0), .d (.int .i64 0), .d (.int .i64 0), .d (.int .i64 0), .d (.int .i64 0), .d (.int .i64 0), .d (.int .i64 0), .d (.int .i64 0), .d (.int .i64 0), .cap0, .cap0, .cap0] [(7, 1, (.c (.d (.int .i64 7))))], [], [], none, none⟩,
      ⟨some 11, .build [.d (.int .i64 0), .d (.int .i64 0), .d (.int .i64 0), .d (.int .i64 0), .d (.int .i64 0), .cap0, .d (.int .i64 0), .d (.int .i64 0), .d (.int .i64 0), .d (.int .i64 0), .d (.int .i64 0), .d (.int .i64 0), .d (.int .i64 0), .d (.int .i64 0), .d (.int .i64 0), .d (.int .i64 0), .d (.int .i64 0), .d (.int .i64 0), .cap0, .cap0, .cap0, .cap0] [(1, 1, (.c (.d (.int .i64 24276)))), (2, 1, (.c (.d (.int .i64 1)))), (5, 16, (.t 10))], [], [], none, none⟩,
      ⟨some 12, .call 5 [(.t 9), (.t 11)], [], [], none, none⟩,
      ⟨some 8, .mv (.t 12), [], [], none, none⟩,
      ⟨some 13, .ext (.t 8) 0, [], [], none, none⟩,
      ⟨some 14, .ext (.t 8) 1, [], [], none, none⟩,
      ⟨some 1, .alloc 1 [.cap0], [], [], none, none⟩,
      ⟨none, .store 1 (.t 1) (.t 13), [], [], none, none⟩,
      ⟨some 2, .mv (.t 14), [], [], none, none⟩])
  (R_c4))) (St.mk s o) Q =
 (demand ((buildN [V.cap0] []).map V.agg) (fun x1 =>
demand ((buildN [V.cap0, V.d (.int .i64 0), V.d (.int .i64 0), V.d (.int .i64 0), V.d (.int .i64 0), V.d (.int .i64 0), V.d (.int .i64 0), V.d (.int .i64 0), V.d (.int .i64 0), V.d (.int .i64 0), V.d (.int .i64 0), V.d (.int .i64 0), V.d (.int .i64 0), V.cap0, V.cap0, V.cap0] [(7, 1, (V.d (.int .i64 7)))]).map V.agg) (fun x2 =>
demand ((buildN [V.d (.int .i64 0), V.d (.int .i64 0), V.d (.int .i64 0), V.d (.int .i64 0), V.d (.int .i64 0), V.cap0, V.d (.int .i64 0), V.d (.int .i64 0), V.d (.int .i64 0), V.d (.int .i64 0), V.d (.int .i64 0), V.d (.int .i64 0), V.d (.int .i64 0), V.d (.int .i64 0), V.d (.int .i64 0), V.d (.int .i64 0), V.d (.int .i64 0), V.d (.int .i64 0), V.cap0, V.cap0, V.cap0, V.cap0] [(1, 1, (V.d (.int .i64 24276))), (2, 1, (V.d (.int .i64 1))), (5, 16, x2)]).map V.agg) (fun x3 =>
callK C I (St.mk (upd (upd (upd (look []) 9 x1) 10 x2) 11 x3) (looko ([].map fun n => (n, o n)))) (some 12) 5 [x1, x3] (fun r4 or4 =>
demand (extV r4 0) (fun x5 =>
demand (extV r4 1) (fun x6 =>
(¬ I 1 ∧ Fresh (St.mk (upd (upd (upd (upd (upd (upd (upd (look []) 9 x1) 10 x2) 11 x3) 12 r4) 8 r4) 13 x5) 14 x6) or4) 1 (some 1) ∧ V.refsL 1 [V.cap0] = false ∧
storeK (V.ptr 1 0) (cellsV x5) 1 (upd or4 1 (some (Ob.box [V.cap0]))) (fun m7 ob8 =>
wpB C I R_c4 (St.mk (look [(1, (V.ptr 1 0)), (2, x6)]) (looko ([1].map fun n => (n, (upd (upd or4 1 (some (Ob.box [V.cap0]))) m7 (some ob8)) n)))) Q))))))))) := rfl

theorem g_book_Add_c0_sh {C : Ctx} {I : Nat → Prop} {s : Nat → V} {o : Nat → Option Ob} {Q : Ex → St → Prop} : wpB C I (.seq (.region [4, 5] (some [4]) (some ([0, 1, 3, 4], .one 2 (.one 5 (.one 6 (.one 7 (.one 8 (.done)))))))
    [⟨some 20, .faddr 0 (.t 2), [], [], none, none⟩,
     ⟨some 21, .load none (.t 20), [], [0], none, none⟩,
     ⟨some 22, .call 14 [(.t 21)], [], [1], none, none⟩,
     ⟨some 23, .load (some 22) (.t 3), [], [], none, none⟩,
     ⟨some 24, .bsl none 22 [] 1 [(0, (.t 23))], [], [3], none, none⟩,
     ⟨some 25, .app none 22 256 (.t 22) (.t 24), [], [2, 4, 2], none, none⟩,
     ⟨some 26, .build [.cap0] [(0, 1, (.t 25))], [], [5], none, none⟩,
     ⟨none, .store 1 (.t 4) (.t 26), [], [6, 5, 0, 1, 2, 3, 4, 5, 6], none, none⟩,
     ⟨some 5, .mv (.c (.d (.int .i64 0))), [], [7, 0, 1, 2, 3, 4, 5, 6, 7], none, none⟩])
 (.ret)) (St.mk s o) Q =
 ((s 20) = V.undef ∧ (demand (faddrV 0 (s 2)) (fun x1 => quietV o (x1 :: [(s 2)]) ∧
(s 21) = V.undef ∧ (demand (loadV o none x1) (fun x2 => quietV o (x2 :: [x1]) ∧
(s 23) = V.undef ∧ (demand (loadV o (some 22) (s 3)) (fun x3 => quietV o (x3 :: [(s 3)]) ∧
(s 24) = V.undef ∧ (lstK (partsN 22 [x3]) (fun x4 => quietV o ((V.d (D.sl x4)) :: [x3]) ∧
(([] : List Nat) = [] ∧ (callE C I (St.mk (upd (upd (upd (upd s 20 x1) 21 x2) 23 x3) 24 (V.d (D.sl x4))) o) (some 22) 14 [x2] (fun r5 or5 =>
(([] : List Nat) = [] ∧ ((lstK (readD or5 (V.d (D.sl x4))) (fun ys6 => (∀ e ∈ ys6, e.length = 22) ∧ appK r5
 (ys6.length * 256 ≤ 140737488355328 ∧ ys6.length ≤ 140737488355328 ∧
(([] : List Nat) = [] ∧ (demand ((buildN [V.cap0] [(0, 1, (V.d (D.sl ys6)))]).map V.agg) (fun x11 =>
(([] : List Nat) = [] ∧ (storeK (s 4) (cellsV x11) 1 or5 (fun m12 ob13 =>
(([] : List Nat) = [] ∧ (Q .ret (St.mk (look [(4, (s 4)), (5, (V.d (.int .i64 0)))]) (looko ([4].map fun n => (n, (upd or5 m12 (some ob13)) n)))))))))))))
 (fun m7 => ¬ I m7 ∧ rowK (or5 m7) (fun z8 es9 => z8 = 22 ∧ (es9.length + ys6.length) * 256 ≤ 140737488355328 ∧ es9.length + ys6.length ≤ 140737488355328 ∧
freeK (St.mk (upd (fun t => scrubV m7 ((upd (upd (upd (upd (upd s 20 x1) 21 x2) 23 x3) 24 (V.d (D.sl x4))) 22 r5) t)) 25 (V.own m7)) (upd (fun n => (or5 n).map (Ob.scrub m7)) m7 (some (Ob.row 22 (es9 ++ ys6))))) m7 (fun st10 =>
(([] : List Nat) = [] ∧ (demand ((buildN [V.cap0] [(0, 1, (st10.s 25))]).map V.agg) (fun x14 =>
(([] : List Nat) = [] ∧ (storeK (st10.s 4) (cellsV x14) 1 st10.o (fun m15 ob16 =>
(([] : List Nat) = [] ∧ (Q .ret (St.mk (look [(4, (st10.s 4)), (5, (V.d (.int .i64 0)))]) (looko ([4].map fun n => (n, (upd st10.o m15 (some ob16)) n))))))))))))))))) ∧ ∀ m, r5 = .own m → ∀ n cs, or5 n = some (.box cs) → V.refsL m cs = false)))))))))))))) := rfl

theorem g_book_Add_c1_sh {R_c0 : ACode} {C : Ctx} {I : Nat → Prop} {s : Nat → V} {o : Nat → Option Ob} {Q : Ex → St → Prop} : wpB C I (.seq (.block 0 [2, 3, 4] (some [2, 3, 4]) (.seq (.region [2, 3, 4, 6] (some [2, 3, 4]) none
      [⟨some 7, .faddr 4 (.t 3), [], [], none, none⟩,
       ⟨some 8, .load none (.t 7), [], [], none, none⟩,
       ⟨some 9, .bin .neq (.t 8) (.c (.d (.int .i64 0))), [], [], none, none⟩,
       ⟨some 6, .mv (.t 9), [], [], none, none⟩])
   (.cond (.t 6) (.seq (.region [4, 5] (some [4]) none
        [⟨some 10, .load (some 1) (.t 2), [], [], none, none⟩,
         ⟨none, .store 1 (.t 4) (.t 10), [], [], none, none⟩,
         ⟨some 5, .mv (.c (.d (.int .i64 1))), [], [], none, none⟩])
     (.ret))
    (.seq (.region [2, 3, 4, 11] (some [2, 3, 4]) none
        [⟨some 12, .load (some 1) (.t 2), [], [], none, none⟩,
         ⟨some 13, .faddr 2 (.t 3), [], [], none, none⟩,
         ⟨some 14, .load none (.t 13), [], [], none, none⟩,
         ⟨some 15, .faddr 1 (.t 3), [], [], none, none⟩,
         ⟨some 16, .load none (.t 15), [], [], none, none⟩,
         ⟨some 17, .call 8 [(.t 12), (.t 14), (.t 16)], [], [], none, none⟩,
         ⟨some 18, .bin .geq (.t 17) (.c (.d (.int .i64 0))), [], [], none, none⟩,
         ⟨some 11, .mv (.t 18), [], [], none, none⟩])
     (.cond (.t 11) (.seq (.region [4, 5] (some [4]) none
          [⟨some 19, .load (some 1) (.t 2), [], [], none, none⟩,
           ⟨none, .store 1 (.t 4) (.t 19), [], [], none, none⟩,
           ⟨some 5, .mv (.c (.d (.int .i64 6))), [], [], none, none⟩])
       (.ret))
      (.skip))))))
 (R_c0)) (St.mk s o) Q =
 (demand (faddrV 4 (s 3)) (fun x1 =>
demand (loadV o none x1) (fun x2 =>
demand (binV BinOp.neq x2 (V.d (.int .i64 0))) (fun x3 =>
condK x3
 (demand (loadV (looko ([2, 3, 4].map fun n => (n, o n))) (some 1) (s 2)) (fun x4 =>
storeK (s 4) (cellsV x4) 1 (looko ([2, 3, 4].map fun n => (n, o n))) (fun m5 ob6 =>
Q .ret (St.mk (look [(4, (s 4)), (5, (V.d (.int .i64 1)))]) (looko ([4].map fun n => (n, (upd (looko ([2, 3, 4].map fun n => (n, o n))) m5 (some ob6)) n)))))))
 (demand (loadV (looko ([2, 3, 4].map fun n => (n, o n))) (some 1) (s 2)) (fun x7 =>
demand (faddrV 2 (s 3)) (fun x8 =>
demand (loadV (looko ([2, 3, 4].map fun n => (n, o n))) none x8) (fun x9 =>
demand (faddrV 1 (s 3)) (fun x10 =>
demand (loadV (looko ([2, 3, 4].map fun n => (n, o n))) none x10) (fun x11 =>
callK C I (St.mk (upd (upd (upd (upd (upd (look [(2, (s 2)), (3, (s 3)), (4, (s 4)), (6, x3)]) 12 x7) 13 x8) 14 x9) 15 x10) 16 x11) (looko ([2, 3, 4].map fun n => (n, o n)))) (some 17) 8 [x7, x9, x11] (fun r12 or12 =>
demand (binV BinOp.geq r12 (V.d (.int .i64 0))) (fun x13 =>
condK x13
 (demand (loadV (looko ([2, 3, 4].map fun n => (n, or12 n))) (some 1) (s 2)) (fun x14 =>
storeK (s 4) (cellsV x14) 1 (looko ([2, 3, 4].map fun n => (n, or12 n))) (fun m15 ob16 =>
Q .ret (St.mk (look [(4, (s 4)), (5, (V.d (.int .i64 6)))]) (looko ([4].map fun n => (n, (upd (looko ([2, 3, 4].map fun n => (n, or12 n))) m15 (some ob16)) n)))))))
 (wpB C I R_c0 (St.mk (look [(2, (s 2)), (3, (s 3)), (4, (s 4))]) (looko ([2, 3, 4].map fun n => (n, or12 n)))) Q))))))))))))) := rfl

theorem g_book_Add_code_sh {R_c1 : ACode} {C : Ctx} {I : Nat → Prop} {s : Nat → V} {o : Nat → Option Ob} {Q : Ex → St → Prop} : wpB C I (.seq (.region [2, 3, 4] (some [2, 3, 4]) none
    [⟨some 2, .box 2 1 (.t 0), [], [], none, none⟩,
     ⟨some 3, .box 3 22 (.t 1), [], [], none, none⟩,
     ⟨some 4, .alloc 4 [.cap0], [], [], none, none⟩,
     ⟨some 5, .mv (.c (.d (.int .i64 0))), [], [], none, none⟩])
 (R_c1)) (St.mk s o) Q =
 (lstK (cellsV (s 0)) (fun c1 => c1.length = 1 ∧ ¬ I 2 ∧ Fresh (St.mk s o) 2 (some 2) ∧ V.refsL 2 c1 = false ∧
lstK (cellsV (s 1)) (fun c2 => c2.length = 22 ∧ ¬ I 3 ∧ Fresh (St.mk (upd s 2 (V.ptr 2 0)) (upd o 2 (some (Ob.box c1)))) 3 (some 3) ∧ V.refsL 3 c2 = false ∧
(¬ I 4 ∧ Fresh (St.mk (upd (upd s 2 (V.ptr 2 0)) 3 (V.ptr 3 0)) (upd (upd o 2 (some (Ob.box c1))) 3 (some (Ob.box c2)))) 4 (some 4) ∧ V.refsL 4 [V.cap0] = false ∧
wpB C I R_c1 (St.mk (look [(2, (V.ptr 2 0)), (3, (V.ptr 3 0)), (4, (V.ptr 4 0))]) (looko ([2, 3, 4].map fun n => (n, (upd (upd (upd o 2 (some (Ob.box c1))) 3 (some (Ob.box c2))) 4 (some (Ob.box [V.cap0]))) n)))) Q)))) := rfl

theorem g_book_Reverse_o1_sh {C : Ctx} {I : Nat → Prop} {s : Nat → V} {o : Nat → Option Ob} {K : St → Prop} : opsB C I [⟨some 16, .pick (.t 10) (.c (.d (.bool true))) (.t 15), [], [], none, none⟩,
     ⟨some 7, .mv (.t 16), [], [], none, none⟩] (St.mk s o) K =
 (demand (pickV (s 10) (V.d (.bool true)) (s 15)) (fun x1 =>
K (St.mk (upd (upd s 16 x1) 7 x1) o))) := rfl

theorem g_book_Reverse_o0_sh {R_o1 : List AOper} {C : Ctx} {I : Nat → Prop} {s : Nat → V} {o : Nat → Option Ob} {K : St → Prop} : opsB C I (⟨some 11, .mv (.t 1), [], [], (some (2, 10, false)), none⟩ ::
     ⟨some 12, .faddr 0 (.t 2), [], [], (some (2, 10, false)), none⟩ ::
     ⟨some 13, .load none (.t 12), [], [], (some (2, 10, false)), none⟩ ::
     ⟨some 14, .len (.t 13), [], [], (some (2, 10, false)), none⟩ ::
     ⟨some 15, .bin .geq (.t 11) (.t 14), [], [], (some (2, 10, false)), (some ([1, 2, 4, 10, 15], (some [2, 4])))⟩ ::
     R_o1) (St.mk s o) K =
 (guardK (s 10) false
 (demand (faddrV 0 (s 2)) (fun x1 =>
demand (loadV o none x1) (fun x2 =>
demand (lenV o x2) (fun x3 =>
demand (binV BinOp.geq (s 1) x3) (fun x4 =>
opsB C I R_o1 (St.mk (look [(1, (s 1)), (2, (s 2)), (4, (s 4)), (10, (V.d (D.bool false))), (15, x4)]) (looko ([2, 4].map fun n => (n, o n)))) K)))))
 (opsB C I R_o1 (St.mk (look [(1, (s 1)), (2, (s 2)), (4, (s 4)), (10, (V.d (D.bool true))), (15, (V.tup []))]) (looko ([2, 4].map fun n => (n, o n)))) K)
 (opsB C I R_o1 (St.mk (look [(1, (s 1)), (2, (s 2)), (4, (s 4)), (10, (V.tup [])), (15, (V.tup []))]) (looko ([2, 4].map fun n => (n, o n)))) K)) := rfl

theorem g_book_Reverse_c0_sh {C : Ctx} {I : Nat → Prop} {s : Nat → V} {o : Nat → Option Ob} {Q : Ex → St → Prop} : wpB C I (.cond (.t 7) (.seq (.region [4, 5] (some [4]) none
     [⟨some 17, .load (some 1) (.t 2), [], [], none, none⟩,
      ⟨none, .store 1 (.t 4) (.t 17), [], [], none, none⟩,
      ⟨some 5, .mv (.c (.d (.int .i64 5))), [], [], none, none⟩])
  (.ret))
 (.seq (.region [1, 2, 4, 18] (some [2, 4]) none
     [⟨some 19, .faddr 0 (.t 2), [], [], none, none⟩,
      ⟨some 20, .load none (.t 19), [], [], none, none⟩,
      ⟨some 21, .mv (.t 1), [], [], none, none⟩,
      ⟨some 22, .iaddr 22 (.t 20) (.t 21), [], [], none, none⟩,
      ⟨some 23, .faddr 4 (.t 22), [], [], none, none⟩,
      ⟨some 24, .load none (.t 23), [], [], none, none⟩,
      ⟨some 25, .bin .neq (.t 24) (.c (.d (.int .i64 0))), [], [], none, none⟩,
      ⟨some 18, .mv (.t 25), [], [], none, none⟩])
  (.cond (.t 18) (.seq (.region [4, 5] (some [4]) none
       [⟨some 26, .load (some 1) (.t 2), [], [], none, none⟩,
        ⟨none, .store 1 (.t 4) (.t 26), [], [], none, none⟩,
        ⟨some 5, .mv (.c (.d (.int .i64 1))), [], [], none, none⟩])
    (.ret))
   (.seq (.region [1, 2, 4, 27] (some [2, 4]) none
       [⟨some 28, .load (some 1) (.t 2), [], [], none, none⟩,
        ⟨some 29, .mv (.t 1), [], [], none, none⟩,
        ⟨some 30, .call 9 [(.t 28), (.t 29)], [], [], none, none⟩,
        ⟨some 31, .un .not (.t 30), [], [], none, none⟩,
        ⟨some 27, .mv (.t 31), [], [], none, none⟩])
    (.cond (.t 27) (.seq (.region [4, 5] (some [4]) none
         [⟨some 32, .load (some 1) (.t 2), [], [], none, none⟩,
          ⟨none, .store 1 (.t 4) (.t 32), [], [], none, none⟩,
          ⟨some 5, .mv (.c (.d (.int .i64 6))), [], [], none, none⟩])
      (.ret))
     (.skip)))))) (St.mk s o) Q =
 (condK (s 7)
 (demand (loadV o (some 1) (s 2)) (fun x1 =>
storeK (s 4) (cellsV x1) 1 o (fun m2 ob3 =>
Q .ret (St.mk (look [(4, (s 4)), (5, (V.d (.int .i64 5)))]) (looko ([4].map fun n => (n, (upd o m2 (some ob3)) n)))))))
 (demand (faddrV 0 (s 2)) (fun x4 =>
demand (loadV o none x4) (fun x5 =>
demand (iaddrV o 22 x5 (s 1)) (fun x6 =>
demand (faddrV 4 x6) (fun x7 =>
demand (loadV o none x7) (fun x8 =>
demand (binV BinOp.neq x8 (V.d (.int .i64 0))) (fun x9 =>
condK x9
 (demand (loadV (looko ([2, 4].map fun n => (n, o n))) (some 1) (s 2)) (fun x10 =>
storeK (s 4) (cellsV x10) 1 (looko ([2, 4].map fun n => (n, o n))) (fun m11 ob12 =>
Q .ret (St.mk (look [(4, (s 4)), (5, (V.d (.int .i64 1)))]) (looko ([4].map fun n => (n, (upd (looko ([2, 4].map fun n => (n, o n))) m11 (some ob12)) n)))))))
 (demand (loadV (looko ([2, 4].map fun n => (n, o n))) (some 1) (s 2)) (fun x13 =>
callK C I (St.mk (upd (upd (look [(1, (s 1)), (2, (s 2)), (4, (s 4)), (18, x9)]) 28 x13) 29 (s 1)) (looko ([2, 4].map fun n => (n, o n)))) (some 30) 9 [x13, (s 1)] (fun r14 or14 =>
demand (unV UnOp.not r14) (fun x15 =>
condK x15
 (demand (loadV (looko ([2, 4].map fun n => (n, or14 n))) (some 1) (s 2)) (fun x16 =>
storeK (s 4) (cellsV x16) 1 (looko ([2, 4].map fun n => (n, or14 n))) (fun m17 ob18 =>
Q .ret (St.mk (look [(4, (s 4)), (5, (V.d (.int .i64 6)))]) (looko ([4].map fun n => (n, (upd (looko ([2, 4].map fun n => (n, or14 n))) m17 (some ob18)) n)))))))
 (Q .normal (St.mk (look [(1, (s 1)), (2, (s 2)), (4, (s 4)), (27, x15)]) (looko ([2, 4].map fun n => (n, or14 n))))))))))))))))) := rfl

theorem g_book_Reverse_c1_sh {C : Ctx} {I : Nat → Prop} {s : Nat → V} {o : Nat → Option Ob} {Q : Ex → St → Prop} : wpB C I (.seq (.region [4, 5] (some [4]) (some ([0, 1, 3, 4], .one 2 (.one 5 (.one 6 (.one 7 (.one 8 (.done)))))))
    [⟨some 41, .faddr 0 (.t 2), [], [], none, none⟩,
     ⟨some 42, .load none (.t 41), [], [0], none, none⟩,
     ⟨some 43, .call 14 [(.t 42)], [], [1], none, none⟩,
     ⟨some 44, .load (some 22) (.t 6), [], [], none, none⟩,
     ⟨some 45, .bsl none 22 [] 1 [(0, (.t 44))], [], [3], none, none⟩,
     ⟨some 46, .app none 22 256 (.t 43) (.t 45), [], [2, 4, 2], none, none⟩,
     ⟨some 47, .build [.cap0] [(0, 1, (.t 46))], [], [5], none, none⟩,
     ⟨none, .store 1 (.t 4) (.t 47), [], [6, 5, 0, 1, 2, 3, 4, 5, 6], none, none⟩,
     ⟨some 5, .mv (.c (.d (.int .i64 0))), [], [7, 0, 1, 2, 3, 4, 5, 6, 7], none, none⟩])
 (.ret)) (St.mk s o) Q =
 ((s 41) = V.undef ∧ (demand (faddrV 0 (s 2)) (fun x1 => quietV o (x1 :: [(s 2)]) ∧
(s 42) = V.undef ∧ (demand (loadV o none x1) (fun x2 => quietV o (x2 :: [x1]) ∧
(s 44) = V.undef ∧ (demand (loadV o (some 22) (s 6)) (fun x3 => quietV o (x3 :: [(s 6)]) ∧
(s 45) = V.undef ∧ (lstK (partsN 22 [x3]) (fun x4 => quietV o ((V.d (D.sl x4)) :: [x3]) ∧
(([] : List Nat) = [] ∧ (callE C I (St.mk (upd (upd (upd (upd s 41 x1) 42 x2) 44 x3) 45 (V.d (D.sl x4))) o) (some 43) 14 [x2] (fun r5 or5 =>
(([] : List Nat) = [] ∧ ((lstK (readD or5 (V.d (D.sl x4))) (fun ys6 => (∀ e ∈ ys6, e.length = 22) ∧ appK r5
 (ys6.length * 256 ≤ 140737488355328 ∧ ys6.length ≤ 140737488355328 ∧
(([] : List Nat) = [] ∧ (demand ((buildN [V.cap0] [(0, 1, (V.d (D.sl ys6)))]).map V.agg) (fun x11 =>
(([] : List Nat) = [] ∧ (storeK (s 4) (cellsV x11) 1 or5 (fun m12 ob13 =>
(([] : List Nat) = [] ∧ (Q .ret (St.mk (look [(4, (s 4)), (5, (V.d (.int .i64 0)))]) (looko ([4].map fun n => (n, (upd or5 m12 (some ob13)) n)))))))))))))
 (fun m7 => ¬ I m7 ∧ rowK (or5 m7) (fun z8 es9 => z8 = 22 ∧ (es9.length + ys6.length) * 256 ≤ 140737488355328 ∧ es9.length + ys6.length ≤ 140737488355328 ∧
freeK (St.mk (upd (fun t => scrubV m7 ((upd (upd (upd (upd (upd s 41 x1) 42 x2) 44 x3) 45 (V.d (D.sl x4))) 43 r5) t)) 46 (V.own m7)) (upd (fun n => (or5 n).map (Ob.scrub m7)) m7 (some (Ob.row 22 (es9 ++ ys6))))) m7 (fun st10 =>
(([] : List Nat) = [] ∧ (demand ((buildN [V.cap0] [(0, 1, (st10.s 46))]).map V.agg) (fun x14 =>
(([] : List Nat) = [] ∧ (storeK (st10.s 4) (cellsV x14) 1 st10.o (fun m15 ob16 =>
(([] : List Nat) = [] ∧ (Q .ret (St.mk (look [(4, (st10.s 4)), (5, (V.d (.int .i64 0)))]) (looko ([4].map fun n => (n, (upd st10.o m15 (some ob16)) n))))))))))))))))) ∧ ∀ m, r5 = .own m → ∀ n cs, or5 n = some (.box cs) → V.refsL m cs = false)))))))))))))) := rfl

theorem g_book_Reverse_c2_sh {R_c1 : ACode} {C : Ctx} {I : Nat → Prop} {s : Nat → V} {o : Nat → Option Ob} {Q : Ex → St → Prop} : wpB C I (.seq (.region [2, 4, 6] (some [2, 4, 6]) none
    [⟨some 38, .mv (.t 1), [], [], none, none⟩,
     ⟨some 39, .bin .add (.t 38) (.c (.d (.int .i64 1))), [], [], none, none⟩,
     ⟨some 40, .faddr 4 (.t 6), [], [], none, none⟩,
     ⟨none, .store 1 (.t 40) (.t 39), [], [], none, none⟩])
 (R_c1)) (St.mk s o) Q =
 (demand (binV BinOp.add (s 1) (V.d (.int .i64 1))) (fun x1 =>
demand (faddrV 4 (s 6)) (fun x2 =>
storeK x2 (cellsV x1) 1 o (fun m3 ob4 =>
wpB C I R_c1 (St.mk (look [(2, (s 2)), (4, (s 4)), (6, (s 6))]) (looko ([2, 4, 6].map fun n => (n, (upd o m3 (some ob4)) n)))) Q)))) := rfl

theorem g_book_Reverse_c3_sh {R_c2 : ACode} {C : Ctx} {I : Nat → Prop} {s : Nat → V} {o : Nat → Option Ob} {Q : Ex → St → Prop} : wpB C I (.seq (.region [1, 2, 4, 6] (some [2, 4, 6]) none
    [⟨some 33, .faddr 0 (.t 2), [], [], none, none⟩,
     ⟨some 34, .load none (.t 33), [], [], none, none⟩,
     ⟨some 35, .mv (.t 1), [], [], none, none⟩,
     ⟨some 36, .iaddr 22 (.t 34) (.t 35), [], [], none, none⟩,
     ⟨some 37, .load (some 22) (.t 36), [], [], none, none⟩,
     ⟨some 6, .alloc 6 [.d (.int .i64 0), .d (.int .i64 0), .d (.int .i64 0), .d (.int .i64 0), .d (.int .i64 0), .cap0, .d (.int .i64 0), .d (.int .i64 0), .d (.int .i64 0), .d (.int .i64 0), .d (.int .i64 0), .d (.int .i64 0), .d (.int .i64 0), .d (.int .i64 0), .d (.int .i64 0), .d (.int .i64 0), .d (.int .i64 0), .d (.int .i64 0), .cap0, .cap0, .cap0, .cap0], [], [], none, none⟩,
     ⟨none, .store 22 (.t 6) (.t 37), [], [], none, none⟩])
 (R_c2)) (St.mk s o) Q =
 (demand (faddrV 0 (s 2)) (fun x1 =>
demand (loadV o none x1) (fun x2 =>
demand (iaddrV o 22 x2 (s 1)) (fun x3 =>
demand (loadV o (some 22) x3) (fun x4 =>
(¬ I 6 ∧ Fresh (St.mk (upd (upd (upd (upd (upd s 33 x1) 34 x2) 35 (s 1)) 36 x3) 37 x4) o) 6 (some 6) ∧ V.refsL 6 [V.d (.int .i64 0), V.d (.int .i64 0), V.d (.int .i64 0), V.d (.int .i64 0), V.d (.int .i64 0), V.cap0, V.d (.int .i64 0), V.d (.int .i64 0), V.d (.int .i64 0), V.d (.int .i64 0), V.d (.int .i64 0), V.d (.int .i64 0), V.d (.int .i64 0), V.d (.int .i64 0), V.d (.int .i64 0), V.d (.int .i64 0), V.d (.int .i64 0), V.d (.int .i64 0), V.cap0, V.cap0, V.cap0, V.cap0] = false ∧
storeK (V.ptr 6 0) (cellsV x4) 22 (upd o 6 (some (Ob.box [V.d (.int .i64 0), V.d (.int .i64 0), V.d (.int .i64 0), V.d (.int .i64 0), V.d (.int .i64 0), V.cap0, V.d (.int .i64 0), V.d (.int .i64 0), V.d (.int .i64 0), V.d (.int .i64 0), V.d (.int .i64 0), V.d (.int .i64 0), V.d (.int .i64 0), V.d (.int .i64 0), V.d (.int .i64 0), V.d (.int .i64 0), V.d (.int .i64 0), V.d (.int .i64 0), V.cap0, V.cap0, V.cap0, V.cap0]))) (fun m5 ob6 =>
wpB C I R_c2 (St.mk (look [(1, (s 1)), (2, (s 2)), (4, (s 4)), (6, (V.ptr 6 0))]) (looko ([2, 4, 6].map fun n => (n, (upd (upd o 6 (some (Ob.box [V.d (.int .i64 0), V.d (.int .i64 0), V.d (.int .i64 0), V.d (.int .i64 0), V.d (.int .i64 0), V.cap0, V.d (.int .i64 0), V.d (.int .i64 0), V.d (.int .i64 0), V.d (.int .i64 0), V.d (.int .i64 0), V.d (.int .i64 0), V.d (.int .i64 0), V.d (.int .i64 0), V.d (.int .i64 0), V.d (.int .i64 0), V.d (.int .i64 0), V.d (.int .i64 0), V.cap0, V.cap0, V.cap0, V.cap0]))) m5 (some ob6)) n)))) Q))))))) := rfl

theorem g_book_Reverse_code_sh {R_o0 : List AOper} {R_c0 : ACode} {R_c3 : ACode} {C : Ctx} {I : Nat → Prop} {s : Nat → V} {o : Nat → Option Ob} {Q : Ex → St → Prop} : wpB C I (.seq (.region [1, 2, 4] (some [2, 4]) none
    [⟨some 2, .box 2 1 (.t 0), [], [], none, none⟩,
     ⟨some 4, .alloc 4 [.cap0], [], [], none, none⟩,
     ⟨some 5, .mv (.c (.d (.int .i64 0))), [], [], none, none⟩])
 (.seq (.block 0 [1, 2, 4] (some [2, 4]) (.seq (.region [1, 2, 4, 7] (some [2, 4]) none
       (⟨some 8, .mv (.t 1), [], [], none, none⟩ ::
        ⟨some 9, .bin .lss (.t 8) (.c (.d (.int .i64 0))), [], [], none, none⟩ ::
        ⟨some 10, .mv (.t 9), [], [], none, (some ([1, 2, 4, 10], (some [2, 4])))⟩ ::
        R_o0))
    (R_c0)))
  (R_c3))) (St.mk s o) Q =
 (lstK (cellsV (s 0)) (fun c1 => c1.length = 1 ∧ ¬ I 2 ∧ Fresh (St.mk s o) 2 (some 2) ∧ V.refsL 2 c1 = false ∧
(¬ I 4 ∧ Fresh (St.mk (upd s 2 (V.ptr 2 0)) (upd o 2 (some (Ob.box c1)))) 4 (some 4) ∧ V.refsL 4 [V.cap0] = false ∧
demand (binV BinOp.lss (s 1) (V.d (.int .i64 0))) (fun x2 =>
opsB C I R_o0 (St.mk (look [(1, (s 1)), (2, (V.ptr 2 0)), (4, (V.ptr 4 0)), (10, x2)]) (looko ([2, 4].map fun n => (n, (upd (upd o 2 (some (Ob.box c1))) 4 (some (Ob.box [V.cap0]))) n)))) (fun st => (seqK (fun st => wpB C I R_c0 st (blockK 0 [1, 2, 4] (some [2, 4]) (seqK (fun st => wpB C I R_c3 st Q) Q))) (blockK 0 [1, 2, 4] (some [2, 4]) (seqK (fun st => wpB C I R_c3 st Q) Q))) .normal (St.trim st [1, 2, 4, 7] (some [2, 4]))))))) := rfl

theorem g_book_Live_o5_sh {C : Ctx} {I : Nat → Prop} {s : Nat → V} {o : Nat → Option Ob} {K : St → Prop} : opsB C I [⟨some 29, .pick (.t 23) (.t 28) (.c (.d (.bool false))), [], [], none, none⟩,
     ⟨some 4, .mv (.t 29), [], [], none, none⟩] (St.mk s o) K =
 (demand (pickV (s 23) (s 28) (V.d (.bool false))) (fun x1 =>
K (St.mk (upd (upd s 29 x1) 4 x1) o))) := rfl

theorem g_book_Live_o4_sh {R_o5 : List AOper} {C : Ctx} {I : Nat → Prop} {s : Nat → V} {o : Nat → Option Ob} {K : St → Prop} : opsB C I (⟨some 24, .faddr 0 (.t 2), [], [], (some (18, 23, true)), none⟩ ::
     ⟨some 25, .load none (.t 24), [], [], (some (18, 23, true)), none⟩ ::
     ⟨some 26, .fnv 30 [(.t 3)], [], [], (some (18, 23, true)), none⟩ ::
     ⟨some 27, .call 15 [(.t 25), (.t 26)], [], [], (some (18, 23, true)), none⟩ ::
     ⟨some 28, .un .not (.t 27), [], [], (some (18, 23, true)), (some ([23, 28], (some [])))⟩ ::
     R_o5) (St.mk s o) K =
 (guardK (s 23) true
 (demand (faddrV 0 (s 2)) (fun x1 =>
demand (loadV o none x1) (fun x2 =>
callK C I (St.mk (upd (upd (upd (upd (upd (upd (upd s 23 (V.d (D.bool true))) 24 x1) 23 (V.d (D.bool true))) 25 x2) 23 (V.d (D.bool true))) 26 (V.fn 30 [(s 3)])) 23 (V.d (D.bool true))) o) (some 27) 15 [x2, (V.fn 30 [(s 3)])] (fun r3 or3 =>
demand (unV UnOp.not r3) (fun x4 =>
opsB C I R_o5 (St.mk (look [(23, (V.d (D.bool true))), (28, x4)]) (looko ([].map fun n => (n, or3 n)))) K)))))
 (opsB C I R_o5 (St.mk (look [(23, (V.d (D.bool false))), (28, (V.tup []))]) (looko ([].map fun n => (n, o n)))) K)
 (opsB C I R_o5 (St.mk (look [(23, (V.tup [])), (28, (V.tup []))]) (looko ([].map fun n => (n, o n)))) K)) := rfl

theorem g_book_Live_o3_sh {R_o4 : List AOper} {C : Ctx} {I : Nat → Prop} {s : Nat → V} {o : Nat → Option Ob} {K : St → Prop} : opsB C I (⟨some 22, .pick (.t 14) (.t 21) (.c (.d (.bool false))), [], [], none, none⟩ ::
     ⟨some 23, .mv (.t 22), [], [], none, (some ([2, 3, 23], (some [2, 3])))⟩ ::
     R_o4) (St.mk s o) K =
 (demand (pickV (s 14) (s 21) (V.d (.bool false))) (fun x1 =>
opsB C I R_o4 (St.mk (look [(2, (s 2)), (3, (s 3)), (23, x1)]) (looko ([2, 3].map fun n => (n, o n)))) K)) := rfl

theorem g_book_Live_o2_sh {R_o3 : List AOper} {C : Ctx} {I : Nat → Prop} {s : Nat → V} {o : Nat → Option Ob} {K : St → Prop} : opsB C I (⟨some 15, .faddr 0 (.t 2), [], [], (some (9, 14, true)), none⟩ ::
     ⟨some 16, .load none (.t 15), [], [], (some (9, 14, true)), none⟩ ::
     ⟨some 17, .load none (.t 3), [], [], (some (9, 14, true)), none⟩ ::
     ⟨some 18, .iaddr 22 (.t 16) (.t 17), [], [], (some (9, 14, true)), none⟩ ::
     ⟨some 19, .faddr 4 (.t 18), [], [], (some (9, 14, true)), none⟩ ::
     ⟨some 20, .load none (.t 19), [], [], (some (9, 14, true)), none⟩ ::
     ⟨some 21, .bin .eql (.t 20) (.c (.d (.int .i64 0))), [], [], (some (9, 14, true)), (some ([2, 3, 14, 21], (some [2, 3])))⟩ ::
     R_o3) (St.mk s o) K =
 (guardK (s 14) true
 (demand (faddrV 0 (s 2)) (fun x1 =>
demand (loadV o none x1) (fun x2 =>
demand (loadV o none (s 3)) (fun x3 =>
demand (iaddrV o 22 x2 x3) (fun x4 =>
demand (faddrV 4 x4) (fun x5 =>
demand (loadV o none x5) (fun x6 =>
demand (binV BinOp.eql x6 (V.d (.int .i64 0))) (fun x7 =>
opsB C I R_o3 (St.mk (look [(2, (s 2)), (3, (s 3)), (14, (V.d (D.bool true))), (21, x7)]) (looko ([2, 3].map fun n => (n, o n)))) K))))))))
 (opsB C I R_o3 (St.mk (look [(2, (s 2)), (3, (s 3)), (14, (V.d (D.bool false))), (21, (V.tup []))]) (looko ([2, 3].map fun n => (n, o n)))) K)
 (opsB C I R_o3 (St.mk (look [(2, (s 2)), (3, (s 3)), (14, (V.tup [])), (21, (V.tup []))]) (looko ([2, 3].map fun n => (n, o n)))) K)) := rfl

theorem g_book_Live_o1_sh {R_o2 : List AOper} {C : Ctx} {I : Nat → Prop} {s : Nat → V} {o : Nat → Option Ob} {K : St → Prop} : opsB C I (⟨some 13, .pick (.t 7) (.t 12) (.c (.d (.bool false))), [], [], none, none⟩ ::
     ⟨some 14, .mv (.t 13), [], [], none, (some ([2, 3, 14], (some [2, 3])))⟩ ::
     R_o2) (St.mk s o) K =
 (demand (pickV (s 7) (s 12) (V.d (.bool false))) (fun x1 =>
opsB C I R_o2 (St.mk (look [(2, (s 2)), (3, (s 3)), (14, x1)]) (looko ([2, 3].map fun n => (n, o n)))) K)) := rfl

theorem g_book_Live_o0_sh {R_o1 : List AOper} {C : Ctx} {I : Nat → Prop} {s : Nat → V} {o : Nat → Option Ob} {K : St → Prop} : opsB C I (⟨some 8, .load none (.t 3), [], [], (some (2, 7, true)), none⟩ ::
     ⟨some 9, .faddr 0 (.t 2), [], [], (some (2, 7, true)), none⟩ ::
     ⟨some 10, .load none (.t 9), [], [], (some (2, 7, true)), none⟩ ::
     ⟨some 11, .len (.t 10), [], [], (some (2, 7, true)), none⟩ ::
     ⟨some 12, .bin .lss (.t 8) (.t 11), [], [], (some (2, 7, true)), (some ([2, 3, 7, 12], (some [2, 3])))⟩ ::
     R_o1) (St.mk s o) K =
 (guardK (s 7) true
 (demand (loadV o none (s 3)) (fun x1 =>
demand (faddrV 0 (s 2)) (fun x2 =>
demand (loadV o none x2) (fun x3 =>
demand (lenV o x3) (fun x4 =>
demand (binV BinOp.lss x1 x4) (fun x5 =>
opsB C I R_o1 (St.mk (look [(2, (s 2)), (3, (s 3)), (7, (V.d (D.bool true))), (12, x5)]) (looko ([2, 3].map fun n => (n, o n)))) K))))))
 (opsB C I R_o1 (St.mk (look [(2, (s 2)), (3, (s 3)), (7, (V.d (D.bool false))), (12, (V.tup []))]) (looko ([2, 3].map fun n => (n, o n)))) K)
 (opsB C I R_o1 (St.mk (look [(2, (s 2)), (3, (s 3)), (7, (V.tup [])), (12, (V.tup []))]) (looko ([2, 3].map fun n => (n, o n)))) K)) := rfl

theorem g_book_Live_c0_sh {C : Ctx} {I : Nat → Prop} {s : Nat → V} {o : Nat → Option Ob} {Q : Ex → St → Prop} : wpB C I (.ret) (St.mk s o) Q =
 (Q .ret (St.mk s o)) := rfl

theorem g_book_Live_code_sh {R_o0 : List AOper} {R_c0 : ACode} {C : Ctx} {I : Nat → Prop} {s : Nat → V} {o : Nat → Option Ob} {Q : Ex → St → Prop} : wpB C I (.seq (.region [2, 3] (some [2, 3]) none
    [⟨some 2, .box 2 1 (.t 0), [], [], none, none⟩,
     ⟨some 3, .box 3 1 (.t 1), [], [], none, none⟩,
     ⟨some 4, .mv (.c (.d (.bool false))), [], [], none, none⟩])
 (.seq (.region [4] (some []) none
     (⟨some 5, .load none (.t 3), [], [], none, none⟩ ::
      ⟨some 6, .bin .geq (.t 5) (.c (.d (.int .i64 0))), [], [], none, none⟩ ::
      ⟨some 7, .mv (.t 6), [], [], none, (some ([2, 3, 7], (some [2, 3])))⟩ ::
      R_o0))
  (R_c0))) (St.mk s o) Q =
 (lstK (cellsV (s 0)) (fun c1 => c1.length = 1 ∧ ¬ I 2 ∧ Fresh (St.mk s o) 2 (some 2) ∧ V.refsL 2 c1 = false ∧
lstK (cellsV (s 1)) (fun c2 => c2.length = 1 ∧ ¬ I 3 ∧ Fresh (St.mk (upd s 2 (V.ptr 2 0)) (upd o 2 (some (Ob.box c1)))) 3 (some 3) ∧ V.refsL 3 c2 = false ∧
demand (loadV (looko ([2, 3].map fun n => (n, (upd (upd o 2 (some (Ob.box c1))) 3 (some (Ob.box c2))) n))) none (V.ptr 3 0)) (fun x3 =>
demand (binV BinOp.geq x3 (V.d (.int .i64 0))) (fun x4 =>
opsB C I R_o0 (St.mk (look [(2, (V.ptr 2 0)), (3, (V.ptr 3 0)), (7, x4)]) (looko ([2, 3].map fun n => (n, (upd (upd o 2 (some (Ob.box c1))) 3 (some (Ob.box c2))) n)))) (fun st => (seqK (fun st => wpB C I R_c0 st Q) Q) .normal (St.trim st [4] (some [])))))))) := rfl

theorem g_ref17_Live_o3_sh {C : Ctx} {I : Nat → Prop} {s : Nat → V} {o : Nat → Option Ob} {K : St → Prop} : opsB C I [⟨some 21, .pick (.t 14) (.c (.d (.bool true))) (.t 20), [], [], none, none⟩] (St.mk s o) K =
 (demand (pickV (s 14) (V.d (.bool true)) (s 20)) (fun x1 =>
K (St.mk (upd s 21 x1) o))) := rfl

theorem g_ref17_Live_o2_sh {R_o3 : List AOper} {C : Ctx} {I : Nat → Prop} {s : Nat → V} {o : Nat → Option Ob} {K : St → Prop} : opsB C I (⟨some 15, .mv (.t 0), [], [], (some (8, 14, false)), none⟩ ::
     ⟨some 16, .mv (.t 1), [], [], (some (8, 14, false)), none⟩ ::
     ⟨some 17, .iaddr 22 (.t 15) (.t 16), [], [], (some (8, 14, false)), none⟩ ::
     ⟨some 18, .faddr 4 (.t 17), [], [], (some (8, 14, false)), none⟩ ::
     ⟨some 19, .load none (.t 18), [], [], (some (8, 14, false)), none⟩ ::
     ⟨some 20, .bin .neq (.t 19) (.c (.d (.int .i64 0))), [], [], (some (8, 14, false)), (some ([0, 1, 14, 20], (some [])))⟩ ::
     R_o3) (St.mk s o) K =
 (guardK (s 14) false
 (demand (iaddrV o 22 (s 0) (s 1)) (fun x1 =>
demand (faddrV 4 x1) (fun x2 =>
demand (loadV o none x2) (fun x3 =>
demand (binV BinOp.neq x3 (V.d (.int .i64 0))) (fun x4 =>
opsB C I R_o3 (St.mk (look [(0, (s 0)), (1, (s 1)), (14, (V.d (D.bool false))), (20, x4)]) (looko ([].map fun n => (n, o n)))) K)))))
 (opsB C I R_o3 (St.mk (look [(0, (s 0)), (1, (s 1)), (14, (V.d (D.bool true))), (20, (V.tup []))]) (looko ([].map fun n => (n, o n)))) K)
 (opsB C I R_o3 (St.mk (look [(0, (s 0)), (1, (s 1)), (14, (V.tup [])), (20, (V.tup []))]) (looko ([].map fun n => (n, o n)))) K)) := rfl

theorem g_ref17_Live_o1_sh {R_o2 : List AOper} {C : Ctx} {I : Nat → Prop} {s : Nat → V} {o : Nat → Option Ob} {K : St → Prop} : opsB C I (⟨some 13, .pick (.t 8) (.c (.d (.bool true))) (.t 12), [], [], none, none⟩ ::
     ⟨some 14, .mv (.t 13), [], [], none, (some ([0, 1, 14], (some [])))⟩ ::
     R_o2) (St.mk s o) K =
 (demand (pickV (s 8) (V.d (.bool true)) (s 12)) (fun x1 =>
opsB C I R_o2 (St.mk (look [(0, (s 0)), (1, (s 1)), (14, x1)]) (looko ([].map fun n => (n, o n)))) K)) := rfl

theorem g_ref17_Live_o0_sh {R_o1 : List AOper} {C : Ctx} {I : Nat → Prop} {s : Nat → V} {o : Nat → Option Ob} {K : St → Prop} : opsB C I (⟨some 9, .mv (.t 1), [], [], (some (2, 8, false)), none⟩ ::
     ⟨some 10, .mv (.t 0), [], [], (some (2, 8, false)), none⟩ ::
     ⟨some 11, .len (.t 10), [], [], (some (2, 8, false)), none⟩ ::
     ⟨some 12, .bin .geq (.t 9) (.t 11), [], [], (some (2, 8, false)), (some ([0, 1, 8, 12], (some [])))⟩ ::
     R_o1) (St.mk s o) K =
 (guardK (s 8) false
 (demand (lenV o (s 0)) (fun x1 =>
demand (binV BinOp.geq (s 1) x1) (fun x2 =>
opsB C I R_o1 (St.mk (look [(0, (s 0)), (1, (s 1)), (8, (V.d (D.bool false))), (12, x2)]) (looko ([].map fun n => (n, o n)))) K)))
 (opsB C I R_o1 (St.mk (look [(0, (s 0)), (1, (s 1)), (8, (V.d (D.bool true))), (12, (V.tup []))]) (looko ([].map fun n => (n, o n)))) K)
 (opsB C I R_o1 (St.mk (look [(0, (s 0)), (1, (s 1)), (8, (V.tup [])), (12, (V.tup []))]) (looko ([].map fun n => (n, o n)))) K)) := rfl

theorem g_ref17_Live_c0_sh {C : Ctx} {I : Nat → Prop} {s : Nat → V} {o : Nat → Option Ob} {Q : Ex → St → Prop} : wpB C I (.cond (.t 21) (.seq (.region [4] (some []) none
     [⟨some 4, .mv (.c (.d (.bool false))), [], [], none, none⟩])
  (.ret))
 (.skip)) (St.mk s o) Q =
 (condK (s 21)
 (Q .ret (St.mk (look [(4, (V.d (.bool false)))]) (looko ([].map fun n => (n, o n)))))
 (Q .normal (St.mk s o))) := rfl

theorem g_ref17_Live_c1_sh {C : Ctx} {I : Nat → Prop} {s : Nat → V} {o : Nat → Option Ob} {Q : Ex → St → Prop} : wpB C I (.region [0, 1, 5] (some []) none
   [⟨some 26, .mv (.t 5), [], [], none, none⟩,
    ⟨some 27, .bin .add (.t 26) (.c (.d (.int .i64 1))), [], [], none, none⟩,
    ⟨some 5, .mv (.t 27), [], [], none, none⟩]) (St.mk s o) Q =
 (demand (binV BinOp.add (s 5) (V.d (.int .i64 1))) (fun x1 =>
Q .normal (St.mk (look [(0, (s 0)), (1, (s 1)), (5, x1)]) (looko ([].map fun n => (n, o n)))))) := rfl

theorem g_ref17_Live_c2_sh {R_c1 : ACode} {C : Ctx} {I : Nat → Prop} {s : Nat → V} {o : Nat → Option Ob} {Q : Ex → St → Prop} : wpB C I (.seq (.block 1 [0, 1, 5] (some []) (.seq (.region [0, 1, 5, 35] (some []) none
      [⟨some 28, .mv (.t 0), [], [], none, none⟩,
       ⟨some 29, .mv (.t 5), [], [], none, none⟩,
       ⟨some 30, .iaddr 22 (.t 28) (.t 29), [], [], none, none⟩,
       ⟨some 31, .faddr 4 (.t 30), [], [], none, none⟩,
       ⟨some 32, .load none (.t 31), [], [], none, none⟩,
       ⟨some 33, .mv (.t 1), [], [], none, none⟩,
       ⟨some 34, .bin .add (.t 33) (.c (.d (.int .i64 1))), [], [], none, none⟩,
       ⟨some 35, .bin .eql (.t 32) (.t 34), [], [], none, none⟩])
   (.cond (.t 35) (.seq (.region [4] (some []) none
        [⟨some 4, .mv (.c (.d (.bool false))), [], [], none, none⟩])
     (.ret))
    (.skip))))
 (R_c1)) (St.mk s o) Q =
 (demand (iaddrV o 22 (s 0) (s 5)) (fun x1 =>
demand (faddrV 4 x1) (fun x2 =>
demand (loadV o none x2) (fun x3 =>
demand (binV BinOp.add (s 1) (V.d (.int .i64 1))) (fun x4 =>
demand (binV BinOp.eql x3 x4) (fun x5 =>
condK x5
 (Q .ret (St.mk (look [(4, (V.d (.bool false)))]) (looko ([].map fun n => (n, o n)))))
 (wpB C I R_c1 (St.mk (look [(0, (s 0)), (1, (s 1)), (5, (s 5))]) (looko ([].map fun n => (n, o n)))) Q))))))) := rfl

theorem g_ref17_Live_l0_sh {R_l0 : ACode} {R_c2 : ACode} {C : Ctx} {I : Nat → Prop} {s : Nat → V} {o : Nat → Option Ob} {Q : Ex → St → Prop} (hL : R_l0 = .loop [0, 1, 5] (some []) (.seq (.seq (.region [0, 1, 5, 25] (some []) none
      [⟨some 22, .mv (.t 5), [], [], none, none⟩,
       ⟨some 23, .mv (.t 0), [], [], none, none⟩,
       ⟨some 24, .len (.t 23), [], [], none, none⟩,
       ⟨some 25, .bin .lss (.t 22) (.t 24), [], [], none, none⟩])
   (.cond (.t 25) (.skip)
    (.exit 0)))
  (R_c2)))
 (h : demand (lenV (looko ([].map fun n => (n, o n))) (s 0)) (fun x1 =>
demand (binV BinOp.lss (s 5) x1) (fun x2 =>
condK x2
 (wpB C I R_c2 (St.mk (look [(0, (s 0)), (1, (s 1)), (5, (s 5)), (25, x2)]) (looko ([].map fun n => (n, o n)))) (seqK (fun s => wpB C I R_l0 s Q) Q))
 (Q (.exit 0) (St.mk (look [(0, (s 0)), (1, (s 1)), (5, (s 5)), (25, x2)]) (looko ([].map fun n => (n, o n)))))))) : wpB C I R_l0 (St.mk s o) Q := w_loopC hL h

theorem g_ref17_Live_c3_sh {C : Ctx} {I : Nat → Prop} {s : Nat → V} {o : Nat → Option Ob} {Q : Ex → St → Prop} : wpB C I (.seq (.region [4] (some []) none
    [⟨some 4, .mv (.c (.d (.bool true))), [], [], none, none⟩])
 (.ret)) (St.mk s o) Q =
 (Q .ret (St.mk (look [(4, (V.d (.bool true)))]) (looko ([].map fun n => (n, o n))))) := rfl

theorem g_ref17_Live_c4_sh {R_l0 : ACode} {R_c3 : ACode} {C : Ctx} {I : Nat → Prop} {s : Nat → V} {o : Nat → Option Ob} {Q : Ex → St → Prop} : wpB C I (.seq (.seq (.region [0, 1, 5] (some []) none
     [⟨some 5, .mv (.c (.d (.int .i64 0))), [], [], none, none⟩])
  (.block 0 [] (some []) (R_l0)))
 (R_c3)) (St.mk s o) Q =
 (wpB C I R_l0 (St.mk (look [(0, (s 0)), (1, (s 1)), (5, (V.d (.int .i64 0)))]) (looko ([].map fun n => (n, o n)))) (blockK 0 [] (some []) (seqK (fun st => wpB C I R_c3 st Q) Q))) := rfl

theorem g_ref17_Live_code_sh {R_o0 : List AOper} {R_c0 : ACode} {R_c4 : ACode} {C : Ctx} {I : Nat → Prop} {s : Nat → V} {o : Nat → Option Ob} {Q : Ex → St → Prop} : wpB C I (.seq (.region [0, 1] (some []) none
    [⟨some 4, .mv (.c (.d (.bool false))), [], [], none, none⟩])
 (.seq (.seq (.region [0, 1, 21] (some []) none
      (⟨some 6, .mv (.t 1), [], [], none, none⟩ ::
       ⟨some 7, .bin .lss (.t 6) (.c (.d (.int .i64 0))), [], [], none, none⟩ ::
       ⟨some 8, .mv (.t 7), [], [], none, (some ([0, 1, 8], (some [])))⟩ ::
       R_o0))
   (R_c0))
  (R_c4))) (St.mk s o) Q =
 (demand (binV BinOp.lss (s 1) (V.d (.int .i64 0))) (fun x1 =>
opsB C I R_o0 (St.mk (look [(0, (s 0)), (1, (s 1)), (8, x1)]) (looko ([].map fun n => (n, o n)))) (fun st => (seqK (fun st => wpB C I R_c0 st (seqK (fun st => wpB C I R_c4 st Q) Q)) (seqK (fun st => wpB C I R_c4 st Q) Q)) .normal (St.trim st [0, 1, 21] (some []))))) := rfl

theorem g_book_Find_o3_sh {C : Ctx} {I : Nat → Prop} {s : Nat → V} {o : Nat → Option Ob} {K : St → Prop} : opsB C I [⟨some 31, .pick (.t 27) (.t 30) (.c (.d (.bool false))), [], [], none, none⟩] (St.mk s o) K =
 (demand (pickV (s 27) (s 30) (V.d (.bool false))) (fun x1 =>
K (St.mk (upd s 31 x1) o))) := rfl

theorem g_book_Find_o2_sh {R_o3 : List AOper} {C : Ctx} {I : Nat → Prop} {s : Nat → V} {o : Nat → Option Ob} {K : St → Prop} : opsB C I (⟨some 28, .load (some 1) (.t 3), [], [], (some (10, 27, true)), none⟩ ::
     ⟨some 29, .mv (.t 7), [], [], (some (10, 27, true)), none⟩ ::
     ⟨some 30, .call 9 [(.t 28), (.t 29)], [], [], (some (10, 27, true)), (some ([1, 2, 3, 7, 10, 11, 12, 27, 30], (some [3])))⟩ ::
     R_o3) (St.mk s o) K =
 (guardK (s 27) true
 (demand (loadV o (some 1) (s 3)) (fun x1 =>
callK C I (St.mk (upd (upd (upd (upd (upd s 27 (V.d (D.bool true))) 28 x1) 27 (V.d (D.bool true))) 29 (s 7)) 27 (V.d (D.bool true))) o) (some 30) 9 [x1, (s 7)] (fun r2 or2 =>
opsB C I R_o3 (St.mk (look [(1, (s 1)), (2, (s 2)), (3, (s 3)), (7, (s 7)), (10, (s 10)), (11, (s 11)), (12, (s 12)), (27, (V.d (D.bool true))), (30, r2)]) (looko ([3].map fun n => (n, or2 n)))) K)))
 (opsB C I R_o3 (St.mk (look [(1, (s 1)), (2, (s 2)), (3, (s 3)), (7, (s 7)), (10, (s 10)), (11, (s 11)), (12, (s 12)), (27, (V.d (D.bool false))), (30, (V.tup []))]) (looko ([3].map fun n => (n, o n)))) K)
 (opsB C I R_o3 (St.mk (look [(1, (s 1)), (2, (s 2)), (3, (s 3)), (7, (s 7)), (10, (s 10)), (11, (s 11)), (12, (s 12)), (27, (V.tup [])), (30, (V.tup []))]) (looko ([3].map fun n => (n, o n)))) K)) := rfl

theorem g_book_Find_o1_sh {R_o2 : List AOper} {C : Ctx} {I : Nat → Prop} {s : Nat → V} {o : Nat → Option Ob} {K : St → Prop} : opsB C I (⟨some 26, .pick (.t 21) (.t 25) (.c (.d (.bool false))), [], [], none, none⟩ ::
     ⟨some 27, .mv (.t 26), [], [], none, (some ([1, 2, 3, 7, 10, 11, 12, 27], (some [3])))⟩ ::
     R_o2) (St.mk s o) K =
 (demand (pickV (s 21) (s 25) (V.d (.bool false))) (fun x1 =>
opsB C I R_o2 (St.mk (look [(1, (s 1)), (2, (s 2)), (3, (s 3)), (7, (s 7)), (10, (s 10)), (11, (s 11)), (12, (s 12)), (27, x1)]) (looko ([3].map fun n => (n, o n)))) K)) := rfl

theorem g_book_Find_o0_sh {R_o1 : List AOper} {C : Ctx} {I : Nat → Prop} {s : Nat → V} {o : Nat → Option Ob} {K : St → Prop} : opsB C I (⟨some 22, .faddr 1 (.t 8), [], [], (some (4, 21, true)), none⟩ ::
     ⟨some 23, .load none (.t 22), [], [], (some (4, 21, true)), none⟩ ::
     ⟨some 24, .mv (.t 2), [], [], (some (4, 21, true)), none⟩ ::
     ⟨some 25, .bin .eql (.t 23) (.t 24), [], [], (some (4, 21, true)), (some ([1, 2, 3, 7, 10, 11, 12, 21, 25], (some [3])))⟩ ::
     R_o1) (St.mk s o) K =
 (guardK (s 21) true
 (demand (faddrV 1 (s 8)) (fun x1 =>
demand (loadV o none x1) (fun x2 =>
demand (binV BinOp.eql x2 (s 2)) (fun x3 =>
opsB C I R_o1 (St.mk (look [(1, (s 1)), (2, (s 2)), (3, (s 3)), (7, (s 7)), (10, (s 10)), (11, (s 11)), (12, (s 12)), (21, (V.d (D.bool true))), (25, x3)]) (looko ([3].map fun n => (n, o n)))) K))))
 (opsB C I R_o1 (St.mk (look [(1, (s 1)), (2, (s 2)), (3, (s 3)), (7, (s 7)), (10, (s 10)), (11, (s 11)), (12, (s 12)), (21, (V.d (D.bool false))), (25, (V.tup []))]) (looko ([3].map fun n => (n, o n)))) K)
 (opsB C I R_o1 (St.mk (look [(1, (s 1)), (2, (s 2)), (3, (s 3)), (7, (s 7)), (10, (s 10)), (11, (s 11)), (12, (s 12)), (21, (V.tup [])), (25, (V.tup []))]) (looko ([3].map fun n => (n, o n)))) K)) := rfl

theorem g_book_Find_c0_sh {C : Ctx} {I : Nat → Prop} {s : Nat → V} {o : Nat → Option Ob} {Q : Ex → St → Prop} : wpB C I (.cond (.t 31) (.seq (.region [6] (some []) none
     [⟨some 32, .mv (.t 7), [], [], none, none⟩,
      ⟨some 6, .mv (.t 32), [], [], none, none⟩])
  (.ret))
 (.skip)) (St.mk s o) Q =
 (condK (s 31)
 (Q .ret (St.mk (look [(6, (s 7))]) (looko ([].map fun n => (n, o n)))))
 (Q .normal (St.mk s o))) := rfl

theorem g_book_Find_c1_sh {R_o0 : List AOper} {R_c0 : ACode} {C : Ctx} {I : Nat → Prop} {s : Nat → V} {o : Nat → Option Ob} {Q : Ex → St → Prop} : wpB C I (.seq (.region [1, 2, 3, 7, 10, 11, 12, 31] (some [3]) none
    (⟨some 17, .faddr 2 (.t 8), [], [], none, none⟩ ::
     ⟨some 18, .load none (.t 17), [], [], none, none⟩ ::
     ⟨some 19, .mv (.t 1), [], [], none, none⟩ ::
     ⟨some 20, .bin .eql (.t 18) (.t 19), [], [], none, none⟩ ::
     ⟨some 21, .mv (.t 20), [], [], none, (some ([1, 2, 3, 7, 8, 10, 11, 12, 21], (some [3, 8])))⟩ ::
     R_o0))
 (R_c0)) (St.mk s o) Q =
 (demand (faddrV 2 (s 8)) (fun x1 =>
demand (loadV o none x1) (fun x2 =>
demand (binV BinOp.eql x2 (s 1)) (fun x3 =>
opsB C I R_o0 (St.mk (look [(1, (s 1)), (2, (s 2)), (3, (s 3)), (7, (s 7)), (8, (s 8)), (10, (s 10)), (11, (s 11)), (12, (s 12)), (21, x3)]) (looko ([3, 8].map fun n => (n, o n)))) (fun st => (seqK (fun st => wpB C I R_c0 st Q) Q) .normal (St.trim st [1, 2, 3, 7, 10, 11, 12, 31] (some [3]))))))) := rfl

theorem g_book_Find_c2_sh {C : Ctx} {I : Nat → Prop} {s : Nat → V} {o : Nat → Option Ob} {Q : Ex → St → Prop} : wpB C I (.region [1, 2, 3, 10, 11, 12] (some [3]) none
   [⟨some 33, .bin .add (.t 12) (.c (.d (.int .i64 1))), [], [], none, none⟩,
    ⟨some 12, .mv (.t 33), [], [], none, none⟩]) (St.mk s o) Q =
 (demand (binV BinOp.add (s 12) (V.d (.int .i64 1))) (fun x1 =>
Q .normal (St.mk (look [(1, (s 1)), (2, (s 2)), (3, (s 3)), (10, (s 10)), (11, (s 11)), (12, x1)]) (looko ([3].map fun n => (n, o n)))))) := rfl

theorem g_book_Find_l0_sh {R_l0 : ACode} {R_c1 : ACode} {R_c2 : ACode} {C : Ctx} {I : Nat → Prop} {s : Nat → V} {o : Nat → Option Ob} {Q : Ex → St → Prop} (hL : R_l0 = .loop [1, 2, 3, 10, 11, 12] (some [3]) (.seq (.region [1, 2, 3, 10, 11, 12, 13] (some [3]) none
     [⟨some 13, .bin .lss (.t 12) (.t 11), [], [], none, none⟩])
  (.seq (.cond (.t 13) (.skip)
    (.exit 0))
   (.seq (.block 1 [1, 2, 3, 10, 11, 12] (some [3]) (.seq (.region [1, 2, 3, 7, 8, 10, 11, 12] (some [3, 8]) none
         [⟨some 14, .mv (.t 12), [], [], none, none⟩,
          ⟨some 15, .iaddr 22 (.t 10) (.t 12), [], [], none, none⟩,
          ⟨some 16, .load (some 22) (.t 15), [], [], none, none⟩,
          ⟨some 8, .alloc 8 [.d (.int .i64 0), .d (.int .i64 0), .d (.int .i64 0), .d (.int .i64 0), .d (.int .i64 0), .cap0, .d (.int .i64 0), .d (.int .i64 0), .d (.int .i64 0), .d (.int .i64 0), .d (.int .i64 0), .d (.int .i64 0), .d (.int .i64 0), .d (.int .i64 0), .d (.int .i64 0), .d (.int .i64 0), .d (.int .i64 0), .d (.int .i64 0), .cap0, .cap0, .cap0, .cap0], [], [], none, none⟩,
          ⟨some 7, .mv (.t 14), [], [], none, none⟩,
          ⟨none, .store 22 (.t 8) (.t 16), [], [], none, none⟩])
      (R_c1)))
    (R_c2)))))
 (h : demand (binV BinOp.lss (s 12) (s 11)) (fun x1 =>
condK x1
 (demand (iaddrV (looko ([3].map fun n => (n, o n))) 22 (s 10) (s 12)) (fun x2 =>
demand (loadV (looko ([3].map fun n => (n, o n))) (some 22) x2) (fun x3 =>
(¬ I 8 ∧ Fresh (St.mk (upd (upd (upd (look [(1, (s 1)), (2, (s 2)), (3, (s 3)), (10, (s 10)), (11, (s 11)), (12, (s 12)), (13, x1)]) 14 (s 12)) 15 x2) 16 x3) (looko ([3].map fun n => (n, o n)))) 8 (some 8) ∧ V.refsL 8 [V.d (.int .i64 0), V.d (.int .i64 0), V.d (.int .i64 0), V.d (.int .i64 0), V.d (.int .i64 0), V.cap0, V.d (.int .i64 0), V.d (.int .i64 0), V.d (.int .i64 0), V.d (.int .i64 0), V.d (.int .i64 0), V.d (.int .i64 0), V.d (.int .i64 0), V.d (.int .i64 0), V.d (.int .i64 0), V.d (.int .i64 0), V.d (.int .i64 0), V.d (.int .i64 0), V.cap0, V.cap0, V.cap0, V.cap0] = false ∧
storeK (V.ptr 8 0) (cellsV x3) 22 (upd (looko ([3].map fun n => (n, o n))) 8 (some (Ob.box [V.d (.int .i64 0), V.d (.int .i64 0), V.d (.int .i64 0), V.d (.int .i64 0), V.d (.int .i64 0), V.cap0, V.d (.int .i64 0), V.d (.int .i64 0), V.d (.int .i64 0), V.d (.int .i64 0), V.d (.int .i64 0), V.d (.int .i64 0), V.d (.int .i64 0), V.d (.int .i64 0), V.d (.int .i64 0), V.d (.int .i64 0), V.d (.int .i64 0), V.d (.int .i64 0), V.cap0, V.cap0, V.cap0, V.cap0]))) (fun m4 ob5 =>
wpB C I R_c1 (St.mk (look [(1, (s 1)), (2, (s 2)), (3, (s 3)), (7, (s 12)), (8, (V.ptr 8 0)), (10, (s 10)), (11, (s 11)), (12, (s 12))]) (looko ([3, 8].map fun n => (n, (upd (upd (looko ([3].map fun n => (n, o n))) 8 (some (Ob.box [V.d (.int .i64 0), V.d (.int .i64 0), V.d (.int .i64 0), V.d (.int .i64 0), V.d (.int .i64 0), V.cap0, V.d (.int .i64 0), V.d (.int .i64 0), V.d (.int .i64 0), V.d (.int .i64 0), V.d (.int .i64 0), V.d (.int .i64 0), V.d (.int .i64 0), V.d (.int .i64 0), V.d (.int .i64 0), V.d (.int .i64 0), V.d (.int .i64 0), V.d (.int .i64 0), V.cap0, V.cap0, V.cap0, V.cap0]))) m4 (some ob5)) n)))) (blockK 1 [1, 2, 3, 10, 11, 12] (some [3]) (seqK (fun st => wpB C I R_c2 st (seqK (fun s => wpB C I R_l0 s Q) Q)) (seqK (fun s => wpB C I R_l0 s Q) Q))))))))
 (Q (.exit 0) (St.mk (look [(1, (s 1)), (2, (s 2)), (3, (s 3)), (10, (s 10)), (11, (s 11)), (12, (s 12)), (13, x1)]) (looko ([3].map fun n => (n, o n))))))) : wpB C I R_l0 (St.mk s o) Q := w_loopC hL h

theorem g_book_Find_c3_sh {R_l0 : ACode} {C : Ctx} {I : Nat → Prop} {s : Nat → V} {o : Nat → Option Ob} {Q : Ex → St → Prop} : wpB C I (.block 0 [] (some []) (R_l0)) (St.mk s o) Q =
 (wpB C I R_l0 (St.mk s o) (blockK 0 [] (some []) Q)) := rfl

theorem g_book_Find_c4_sh {C : Ctx} {I : Nat → Prop} {s : Nat → V} {o : Nat → Option Ob} {Q : Ex → St → Prop} : wpB C I (.seq (.region [6] (some []) none
    [⟨some 6, .mv (.c (.d (.int .i64 (-1)))), [], [], none, none⟩])
 (.ret)) (St.mk s o) Q =
 (Q .ret (St.mk (look [(6, (V.d (.int .i64 (-1))))]) (looko ([].map fun n => (n, o n))))) := rfl

theorem g_book_Find_code_sh {R_c3 : ACode} {R_c4 : ACode} {C : Ctx} {I : Nat → Prop} {s : Nat → V} {o : Nat → Option Ob} {Q : Ex → St → Prop} : wpB C I (.seq (.region [1, 2, 3] (some [3]) none
    [⟨some 3, .box 3 1 (.t 0), [], [], none, none⟩,
     ⟨some 6, .mv (.c (.d (.int .i64 0))), [], [], none, none⟩])
 (.seq (.seq (.region [1, 2, 3, 10, 11, 12] (some [3]) none
      [⟨some 9, .faddr 0 (.t 3), [], [], none, none⟩,
       ⟨some 10, .load none (.t 9), [], [], none, none⟩,
       ⟨some 11, .len (.t 10), [], [], none, none⟩,
       ⟨some 12, .mv (.c (.d (.int .i64 0))), [], [], none, none⟩])
   (R_c3))
  (R_c4))) (St.mk s o) Q =
 (lstK (cellsV (s 0)) (fun c1 => c1.length = 1 ∧ ¬ I 3 ∧ Fresh (St.mk s o) 3 (some 3) ∧ V.refsL 3 c1 = false ∧
demand (faddrV 0 (V.ptr 3 0)) (fun x2 =>
demand (loadV (looko ([3].map fun n => (n, (upd o 3 (some (Ob.box c1))) n))) none x2) (fun x3 =>
demand (lenV (looko ([3].map fun n => (n, (upd o 3 (some (Ob.box c1))) n))) x3) (fun x4 =>
wpB C I R_c3 (St.mk (look [(1, (s 1)), (2, (s 2)), (3, (V.ptr 3 0)), (10, x3), (11, x4), (12, (V.d (.int .i64 0)))]) (looko ([3].map fun n => (n, (upd o 3 (some (Ob.box c1))) n)))) (seqK (fun st => wpB C I R_c4 st Q) Q)))))) := rfl

theorem g_ref17_Find_o3_sh {C : Ctx} {I : Nat → Prop} {s : Nat → V} {o : Nat → Option Ob} {K : St → Prop} : opsB C I [⟨some 34, .pick (.t 30) (.t 33) (.c (.d (.bool false))), [], [], none, none⟩] (St.mk s o) K =
 (demand (pickV (s 30) (s 33) (V.d (.bool false))) (fun x1 =>
K (St.mk (upd s 34 x1) o))) := rfl

theorem g_ref17_Find_o2_sh {R_o3 : List AOper} {C : Ctx} {I : Nat → Prop} {s : Nat → V} {o : Nat → Option Ob} {K : St → Prop} : opsB C I (⟨some 31, .mv (.t 0), [], [], (some (16, 30, true)), none⟩ ::
     ⟨some 32, .mv (.t 7), [], [], (some (16, 30, true)), none⟩ ::
     ⟨some 33, .call 10 [(.t 31), (.t 32)], [], [], (some (16, 30, true)), (some ([0, 1, 2, 7, 30, 33], (some [])))⟩ ::
     R_o3) (St.mk s o) K =
 (guardK (s 30) true
 (callK C I (St.mk (upd (upd (upd (upd (upd s 30 (V.d (D.bool true))) 31 (s 0)) 30 (V.d (D.bool true))) 32 (s 7)) 30 (V.d (D.bool true))) o) (some 33) 10 [(s 0), (s 7)] (fun r1 or1 =>
opsB C I R_o3 (St.mk (look [(0, (s 0)), (1, (s 1)), (2, (s 2)), (7, (s 7)), (30, (V.d (D.bool true))), (33, r1)]) (looko ([].map fun n => (n, or1 n)))) K))
 (opsB C I R_o3 (St.mk (look [(0, (s 0)), (1, (s 1)), (2, (s 2)), (7, (s 7)), (30, (V.d (D.bool false))), (33, (V.tup []))]) (looko ([].map fun n => (n, o n)))) K)
 (opsB C I R_o3 (St.mk (look [(0, (s 0)), (1, (s 1)), (2, (s 2)), (7, (s 7)), (30, (V.tup [])), (33, (V.tup []))]) (looko ([].map fun n => (n, o n)))) K)) := rfl

theorem g_ref17_Find_o1_sh {R_o2 : List AOper} {C : Ctx} {I : Nat → Prop} {s : Nat → V} {o : Nat → Option Ob} {K : St → Prop} : opsB C I (⟨some 29, .pick (.t 21) (.t 28) (.c (.d (.bool false))), [], [], none, none⟩ ::
     ⟨some 30, .mv (.t 29), [], [], none, (some ([0, 1, 2, 7, 30], (some [])))⟩ ::
     R_o2) (St.mk s o) K =
 (demand (pickV (s 21) (s 28) (V.d (.bool false))) (fun x1 =>
opsB C I R_o2 (St.mk (look [(0, (s 0)), (1, (s 1)), (2, (s 2)), (7, (s 7)), (30, x1)]) (looko ([].map fun n => (n, o n)))) K)) := rfl

theorem g_ref17_Find_o0_sh {R_o1 : List AOper} {C : Ctx} {I : Nat → Prop} {s : Nat → V} {o : Nat → Option Ob} {K : St → Prop} : opsB C I (⟨some 22, .mv (.t 0), [], [], (some (7, 21, true)), none⟩ ::
     ⟨some 23, .mv (.t 7), [], [], (some (7, 21, true)), none⟩ ::
     ⟨some 24, .iaddr 22 (.t 22) (.t 23), [], [], (some (7, 21, true)), none⟩ ::
     ⟨some 25, .faddr 1 (.t 24), [], [], (some (7, 21, true)), none⟩ ::
     ⟨some 26, .load none (.t 25), [], [], (some (7, 21, true)), none⟩ ::
     ⟨some 27, .mv (.t 2), [], [], (some (7, 21, true)), none⟩ ::
     ⟨some 28, .bin .eql (.t 26) (.t 27), [], [], (some (7, 21, true)), (some ([0, 1, 2, 7, 21, 28], (some [])))⟩ ::
     R_o1) (St.mk s o) K =
 (guardK (s 21) true
 (demand (iaddrV o 22 (s 0) (s 7)) (fun x1 =>
demand (faddrV 1 x1) (fun x2 =>
demand (loadV o none x2) (fun x3 =>
demand (binV BinOp.eql x3 (s 2)) (fun x4 =>
opsB C I R_o1 (St.mk (look [(0, (s 0)), (1, (s 1)), (2, (s 2)), (7, (s 7)), (21, (V.d (D.bool true))), (28, x4)]) (looko ([].map fun n => (n, o n)))) K)))))
 (opsB C I R_o1 (St.mk (look [(0, (s 0)), (1, (s 1)), (2, (s 2)), (7, (s 7)), (21, (V.d (D.bool false))), (28, (V.tup []))]) (looko ([].map fun n => (n, o n)))) K)
 (opsB C I R_o1 (St.mk (look [(0, (s 0)), (1, (s 1)), (2, (s 2)), (7, (s 7)), (21, (V.tup [])), (28, (V.tup []))]) (looko ([].map fun n => (n, o n)))) K)) := rfl

theorem g_ref17_Find_c0_sh {C : Ctx} {I : Nat → Prop} {s : Nat → V} {o : Nat → Option Ob} {Q : Ex → St → Prop} : wpB C I (.cond (.t 34) (.seq (.region [6] (some []) none
     [⟨some 35, .mv (.t 7), [], [], none, none⟩,
      ⟨some 6, .mv (.t 35), [], [], none, none⟩])
  (.ret))
 (.skip)) (St.mk s o) Q =
 (condK (s 34)
 (Q .ret (St.mk (look [(6, (s 7))]) (looko ([].map fun n => (n, o n)))))
 (Q .normal (St.mk s o))) := rfl

theorem g_ref17_Find_c1_sh {C : Ctx} {I : Nat → Prop} {s : Nat → V} {o : Nat → Option Ob} {Q : Ex → St → Prop} : wpB C I (.region [0, 1, 2, 7] (some []) none
   [⟨some 12, .mv (.t 7), [], [], none, none⟩,
    ⟨some 13, .bin .add (.t 12) (.c (.d (.int .i64 1))), [], [], none, none⟩,
    ⟨some 7, .mv (.t 13), [], [], none, none⟩]) (St.mk s o) Q =
 (demand (binV BinOp.add (s 7) (V.d (.int .i64 1))) (fun x1 =>
Q .normal (St.mk (look [(0, (s 0)), (1, (s 1)), (2, (s 2)), (7, x1)]) (looko ([].map fun n => (n, o n)))))) := rfl

theorem g_ref17_Find_c2_sh {R_o0 : List AOper} {R_c0 : ACode} {R_c1 : ACode} {C : Ctx} {I : Nat → Prop} {s : Nat → V} {o : Nat → Option Ob} {Q : Ex → St → Prop} : wpB C I (.seq (.block 1 [0, 1, 2, 7] (some []) (.seq (.region [0, 1, 2, 7, 34] (some []) none
      (⟨some 14, .mv (.t 0), [], [], none, none⟩ ::
       ⟨some 15, .mv (.t 7), [], [], none, none⟩ ::
       ⟨some 16, .iaddr 22 (.t 14) (.t 15), [], [], none, none⟩ ::
       ⟨some 17, .faddr 2 (.t 16), [], [], none, none⟩ ::
       ⟨some 18, .load none (.t 17), [], [], none, none⟩ ::
       ⟨some 19, .mv (.t 1), [], [], none, none⟩ ::
       ⟨some 20, .bin .eql (.t 18) (.t 19), [], [], none, none⟩ ::
       ⟨some 21, .mv (.t 20), [], [], none, (some ([0, 1, 2, 7, 21], (some [])))⟩ ::
       R_o0))
   (R_c0)))
 (R_c1)) (St.mk s o) Q =
 (demand (iaddrV o 22 (s 0) (s 7)) (fun x1 =>
demand (faddrV 2 x1) (fun x2 =>
demand (loadV o none x2) (fun x3 =>
demand (binV BinOp.eql x3 (s 1)) (fun x4 =>
opsB C I R_o0 (St.mk (look [(0, (s 0)), (1, (s 1)), (2, (s 2)), (7, (s 7)), (21, x4)]) (looko ([].map fun n => (n, o n)))) (fun st => (seqK (fun st => wpB C I R_c0 st (blockK 1 [0, 1, 2, 7] (some []) (seqK (fun st => wpB C I R_c1 st Q) Q))) (blockK 1 [0, 1, 2, 7] (some []) (seqK (fun st => wpB C I R_c1 st Q) Q))) .normal (St.trim st [0, 1, 2, 7, 34] (some [])))))))) := rfl

theorem g_ref17_Find_l0_sh {R_l0 : ACode} {R_c2 : ACode} {C : Ctx} {I : Nat → Prop} {s : Nat → V} {o : Nat → Option Ob} {Q : Ex → St → Prop} (hL : R_l0 = .loop [0, 1, 2, 7] (some []) (.seq (.seq (.region [0, 1, 2, 7, 11] (some []) none
      [⟨some 8, .mv (.t 7), [], [], none, none⟩,
       ⟨some 9, .mv (.t 0), [], [], none, none⟩,
       ⟨some 10, .len (.t 9), [], [], none, none⟩,
       ⟨some 11, .bin .lss (.t 8) (.t 10), [], [], none, none⟩])
   (.cond (.t 11) (.skip)
    (.exit 0)))
  (R_c2)))
 (h : demand (lenV (looko ([].map fun n => (n, o n))) (s 0)) (fun x1 =>
demand (binV BinOp.lss (s 7) x1) (fun x2 =>
condK x2
 (wpB C I R_c2 (St.mk (look [(0, (s 0)), (1, (s 1)), (2, (s 2)), (7, (s 7)), (11, x2)]) (looko ([].map fun n => (n, o n)))) (seqK (fun s => wpB C I R_l0 s Q) Q))
 (Q (.exit 0) (St.mk (look [(0, (s 0)), (1, (s 1)), (2, (s 2)), (7, (s 7)), (11, x2)]) (looko ([].map fun n => (n, o n)))))))) : wpB C I R_l0 (St.mk s o) Q := w_loopC hL h

theorem g_ref17_Find_c3_sh {C : Ctx} {I : Nat → Prop} {s : Nat → V} {o : Nat → Option Ob} {Q : Ex → St → Prop} : wpB C I (.seq (.region [6] (some []) none
    [⟨some 6, .mv (.c (.d (.int .i64 (-1)))), [], [], none, none⟩])
 (.ret)) (St.mk s o) Q =
 (Q .ret (St.mk (look [(6, (V.d (.int .i64 (-1))))]) (looko ([].map fun n => (n, o n))))) := rfl

theorem g_ref17_Find_code_sh {R_l0 : ACode} {R_c3 : ACode} {C : Ctx} {I : Nat → Prop} {s : Nat → V} {o : Nat → Option Ob} {Q : Ex → St → Prop} : wpB C I (.seq (.region [0, 1, 2] (some []) none
    [⟨some 6, .mv (.c (.d (.int .i64 0))), [], [], none, none⟩])
 (.seq (.seq (.region [0, 1, 2, 7] (some []) none
      [⟨some 7, .mv (.c (.d (.int .i64 0))), [], [], none, none⟩])
   (.block 0 [] (some []) (R_l0)))
  (R_c3))) (St.mk s o) Q =
 (wpB C I R_l0 (St.mk (look [(0, (s 0)), (1, (s 1)), (2, (s 2)), (7, (V.d (.int .i64 0)))]) (looko ([].map fun n => (n, o n)))) (blockK 0 [] (some []) (seqK (fun st => wpB C I R_c3 st Q) Q))) := rfl

theorem g_law17_Ref_o0_sh {C : Ctx} {I : Nat → Prop} {s : Nat → V} {o : Nat → Option Ob} {K : St → Prop} : opsB C I [⟨some 44, .faddr 15 (.t 3), [], [], none, none⟩,
     ⟨some 45, .load none (.t 44), [], [], none, none⟩,
     ⟨some 46, .build [.cap0, .d (.int .i64 0), .d (.int .i64 0), .d (.int .i64 0), .d (.int .i64 0), .d (.int .i64 0), .d (.int .i64 0), .d (.int .i64 0), .d (.int .i64 0), .d (.int .i64 0), .d (.int .i64 0), .d (.int .i64 0), .d (.int .i64 0), .cap0, .cap0, .cap0] [(1, 3, (.t 25)), (4, 3, (.t 27)), (7, 1, (.t 29)), (8, 1, (.t 31)), (9, 1, (.t 33)), (10, 1, (.t 35)), (11, 1, (.t 37)), (12, 1, (.t 39)), (13, 1, (.t 41)), (14, 1, (.t 43)), (15, 1, (.t 45))], [], [], none, none⟩,
     ⟨some 47, .faddr 5 (.t 4), [], [], none, none⟩,
     ⟨none, .store 16 (.t 47) (.t 46), [], [], none, none⟩] (St.mk s o) K =
 (demand (faddrV 15 (s 3)) (fun x1 =>
demand (loadV o none x1) (fun x2 =>
demand ((buildN [V.cap0, V.d (.int .i64 0), V.d (.int .i64 0), V.d (.int .i64 0), V.d (.int .i64 0), V.d (.int .i64 0), V.d (.int .i64 0), V.d (.int .i64 0), V.d (.int .i64 0), V.d (.int .i64 0), V.d (.int .i64 0), V.d (.int .i64 0), V.d (.int .i64 0), V.cap0, V.cap0, V.cap0] [(1, 3, (s 25)), (4, 3, (s 27)), (7, 1, (s 29)), (8, 1, (s 31)), (9, 1, (s 33)), (10, 1, (s 35)), (11, 1, (s 37)), (12, 1, (s 39)), (13, 1, (s 41)), (14, 1, (s 43)), (15, 1, x2)]).map V.agg) (fun x3 =>
demand (faddrV 5 (s 4)) (fun x4 =>
storeK x4 (cellsV x3) 16 o (fun m5 ob6 =>
K (St.mk (upd (upd (upd (upd s 44 x1) 45 x2) 46 x3) 47 x4) (upd o m5 (some ob6))))))))) := rfl

theorem g_law17_Ref_c0_sh {C : Ctx} {I : Nat → Prop} {s : Nat → V} {o : Nat → Option Ob} {Q : Ex → St → Prop} : wpB C I (.region [1, 2, 4, 5, 49, 50, 51] (some [1, 2, 4, 58, 74]) none
   [⟨some 55, .mv (.t 5), [], [], none, none⟩,
    ⟨some 56, .load (some 3) (.t 7), [], [], none, none⟩,
    ⟨some 57, .bsl none 3 [] 1 [(0, (.t 56))], [], [], none, none⟩,
    ⟨some 58, .app (some 58) 3 40 (.t 55) (.t 57), [], [], none, none⟩,
    ⟨some 5, .mv (.t 58), [], [], none, none⟩]) (St.mk s o) Q =
 (demand (loadV o (some 3) (s 7)) (fun x1 =>
lstK (partsN 3 [x1]) (fun es2 =>
lstK (readD o (V.d (D.sl es2))) (fun ys3 => (∀ e ∈ ys3, e.length = 3) ∧ appK (s 5)
 (ys3.length * 40 ≤ 140737488355328 ∧ ys3.length ≤ 140737488355328 ∧ ¬ I 58 ∧ Fresh (St.mk (upd (upd (upd s 55 (s 5)) 56 x1) 57 (V.d (D.sl es2))) o) 58 (some 58) ∧
Q .normal (St.mk (look [(1, (s 1)), (2, (s 2)), (4, (s 4)), (5, (V.own 58)), (49, (s 49)), (50, (s 50)), (51, (s 51))]) (looko ([1, 2, 4, 58, 74].map fun n => (n, (upd o 58 (some (Ob.row 3 ys3))) n)))))
 (fun m4 => ¬ I m4 ∧ rowK (o m4) (fun z5 es6 => z5 = 3 ∧ (es6.length + ys3.length) * 40 ≤ 140737488355328 ∧ es6.length + ys3.length ≤ 140737488355328 ∧
Q .normal (St.mk (look [(1, ((fun t => scrubV m4 (s t)) 1)), (2, ((fun t => scrubV m4 (s t)) 2)), (4, ((fun t => scrubV m4 (s t)) 4)), (5, (V.own m4)), (49, ((fun t => scrubV m4 (s t)) 49)), (50, ((fun t => scrubV m4 (s t)) 50)), (51, ((fun t => scrubV m4 (s t)) 51))]) (looko ([1, 2, 4, 58, 74].map fun n => (n, (upd (fun n => (o n).map (Ob.scrub m4)) m4 (some (Ob.row 3 (es6 ++ ys3)))) n)))))))))) := rfl

theorem g_law17_Ref_c1_sh {C : Ctx} {I : Nat → Prop} {s : Nat → V} {o : Nat → Option Ob} {Q : Ex → St → Prop} : wpB C I (.region [1, 2, 4, 5, 49, 50, 51] (some [1, 2, 4, 58, 74]) none
   [⟨some 59, .bin .add (.t 51) (.c (.d (.int .i64 1))), [], [], none, none⟩,
    ⟨some 51, .mv (.t 59), [], [], none, none⟩]) (St.mk s o) Q =
 (demand (binV BinOp.add (s 51) (V.d (.int .i64 1))) (fun x1 =>
Q .normal (St.mk (look [(1, (s 1)), (2, (s 2)), (4, (s 4)), (5, (s 5)), (49, (s 49)), (50, (s 50)), (51, x1)]) (looko ([1, 2, 4, 58, 74].map fun n => (n, o n)))))) := rfl

theorem g_law17_Ref_l0_sh {R_l0 : ACode} {R_c0 : ACode} {R_c1 : ACode} {C : Ctx} {I : Nat → Prop} {s : Nat → V} {o : Nat → Option Ob} {Q : Ex → St → Prop} (hL : R_l0 = .loop [1, 2, 4, 5, 49, 50, 51] (some [1, 2, 4, 58, 74]) (.seq (.region [1, 2, 4, 5, 49, 50, 51, 52] (some [1, 2, 4, 58, 74]) none
     [⟨some 52, .bin .lss (.t 51) (.t 50), [], [], none, none⟩])
  (.seq (.cond (.t 52) (.skip)
    (.exit 0))
   (.seq (.block 1 [1, 2, 4, 5, 49, 50, 51] (some [1, 2, 4, 58, 74]) (.seq (.region [1, 2, 4, 5, 7, 49, 50, 51] (some [1, 2, 4, 7, 58, 74]) none
         [⟨some 53, .iaddr 3 (.t 49) (.t 51), [], [], none, none⟩,
          ⟨some 54, .load (some 3) (.t 53), [], [], none, none⟩,
          ⟨some 7, .alloc 7 [.d (.str []), .d (.str []), .d (.int .i64 0)], [], [], none, none⟩,
          ⟨none, .store 3 (.t 7) (.t 54), [], [], none, none⟩])
      (R_c0)))
    (R_c1)))))
 (h : demand (binV BinOp.lss (s 51) (s 50)) (fun x1 =>
condK x1
 (demand (iaddrV (looko ([1, 2, 4, 58, 74].map fun n => (n, o n))) 3 (s 49) (s 51)) (fun x2 =>
demand (loadV (looko ([1, 2, 4, 58, 74].map fun n => (n, o n))) (some 3) x2) (fun x3 =>
(¬ I 7 ∧ Fresh (St.mk (upd (upd (look [(1, (s 1)), (2, (s 2)), (4, (s 4)), (5, (s 5)), (49, (s 49)), (50, (s 50)), (51, (s 51)), (52, x1)]) 53 x2) 54 x3) (looko ([1, 2, 4, 58, 74].map fun n => (n, o n)))) 7 (some 7) ∧ V.refsL 7 [V.d (.str []), V.d (.str []), V.d (.int .i64 0)] = false ∧
storeK (V.ptr 7 0) (cellsV x3) 3 (upd (looko ([1, 2, 4, 58, 74].map fun n => (n, o n))) 7 (some (Ob.box [V.d (.str []), V.d (.str []), V.d (.int .i64 0)]))) (fun m4 ob5 =>
wpB C I R_c0 (St.mk (look [(1, (s 1)), (2, (s 2)), (4, (s 4)), (5, (s 5)), (7, (V.ptr 7 0)), (49, (s 49)), (50, (s 50)), (51, (s 51))]) (looko ([1, 2, 4, 7, 58, 74].map fun n => (n, (upd (upd (looko ([1, 2, 4, 58, 74].map fun n => (n, o n))) 7 (some (Ob.box [V.d (.str []), V.d (.str []), V.d (.int .i64 0)]))) m4 (some ob5)) n)))) (blockK 1 [1, 2, 4, 5, 49, 50, 51] (some [1, 2, 4, 58, 74]) (seqK (fun st => wpB C I R_c1 st (seqK (fun s => wpB C I R_l0 s Q) Q)) (seqK (fun s => wpB C I R_l0 s Q) Q))))))))
 (Q (.exit 0) (St.mk (look [(1, (s 1)), (2, (s 2)), (4, (s 4)), (5, (s 5)), (49, (s 49)), (50, (s 50)), (51, (s 51)), (52, x1)]) (looko ([1, 2, 4, 58, 74].map fun n => (n, o n))))))) : wpB C I R_l0 (St.mk s o) Q := w_loopC hL h

theorem g_law17_Ref_c2_sh {R_l0 : ACode} {C : Ctx} {I : Nat → Prop} {s : Nat → V} {o : Nat → Option Ob} {Q : Ex → St → Prop} : wpB C I (.block 0 [1, 2, 4, 5] (some [1, 2, 4, 58, 74]) (R_l0)) (St.mk s o) Q =
 (wpB C I R_l0 (St.mk s o) (blockK 0 [1, 2, 4, 5] (some [1, 2, 4, 58, 74]) Q)) := rfl

theorem g_law17_Ref_c3_sh {C : Ctx} {I : Nat → Prop} {s : Nat → V} {o : Nat → Option Ob} {Q : Ex → St → Prop} : wpB C I (.region [2, 4, 5, 8, 61, 62, 63] (some [2, 4, 58, 74]) none
   [⟨some 67, .mv (.t 8), [], [], none, none⟩,
    ⟨some 68, .faddr 0 (.t 10), [], [], none, none⟩,
    ⟨some 69, .load none (.t 68), [], [], none, none⟩,
    ⟨some 70, .faddr 1 (.t 10), [], [], none, none⟩,
    ⟨some 71, .load (some 3) (.t 70), [], [], none, none⟩,
    ⟨some 72, .build [.d (.int .i64 0), .d (.int .i64 0), .d (.int .i64 0), .d (.int .i64 0)] [(0, 1, (.t 69)), (1, 3, (.t 71))], [], [], none, none⟩,
    ⟨some 73, .bsl none 4 [] 1 [(0, (.t 72))], [], [], none, none⟩,
    ⟨some 74, .app (some 74) 4 32 (.t 67) (.t 73), [], [], none, none⟩,
    ⟨some 8, .mv (.t 74), [], [], none, none⟩]) (St.mk s o) Q =
 (demand (faddrV 0 (s 10)) (fun x1 =>
demand (loadV o none x1) (fun x2 =>
demand (faddrV 1 (s 10)) (fun x3 =>
demand (loadV o (some 3) x3) (fun x4 =>
demand ((buildN [V.d (.int .i64 0), V.d (.int .i64 0), V.d (.int .i64 0), V.d (.int .i64 0)] [(0, 1, x2), (1, 3, x4)]).map V.agg) (fun x5 =>
lstK (partsN 4 [x5]) (fun es6 =>
lstK (readD o (V.d (D.sl es6))) (fun ys7 => (∀ e ∈ ys7, e.length = 4) ∧ appK (s 8)
 (ys7.length * 32 ≤ 140737488355328 ∧ ys7.length ≤ 140737488355328 ∧ ¬ I 74 ∧ Fresh (St.mk (upd (upd (upd (upd (upd (upd (upd s 67 (s 8)) 68 x1) 69 x2) 70 x3) 71 x4) 72 x5) 73 (V.d (D.sl es6))) o) 74 (some 74) ∧
Q .normal (St.mk (look [(2, (s 2)), (4, (s 4)), (5, (s 5)), (8, (V.own 74)), (61, (s 61)), (62, (s 62)), (63, (s 63))]) (looko ([2, 4, 58, 74].map fun n => (n, (upd o 74 (some (Ob.row 4 ys7))) n)))))
 (fun m8 => ¬ I m8 ∧ rowK (o m8) (fun z9 es10 => z9 = 4 ∧ (es10.length + ys7.length) * 32 ≤ 140737488355328 ∧ es10.length + ys7.length ≤ 140737488355328 ∧
Q .normal (St.mk (look [(2, ((fun t => scrubV m8 (s t)) 2)), (4, ((fun t => scrubV m8 (s t)) 4)), (5, ((fun t => scrubV m8 (s t)) 5)), (8, (V.own m8)), (61, ((fun t => scrubV m8 (s t)) 61)), (62, ((fun t => scrubV m8 (s t)) 62)), (63, ((fun t => scrubV m8 (s t)) 63))]) (looko ([2, 4, 58, 74].map fun n => (n, (upd (fun n => (o n).map (Ob.scrub m8)) m8 (some (Ob.row 4 (es10 ++ ys7)))) n)))))))))))))) := rfl

theorem g_law17_Ref_c4_sh {C : Ctx} {I : Nat → Prop} {s : Nat → V} {o : Nat → Option Ob} {Q : Ex → St → Prop} : wpB C I (.region [2, 4, 5, 8, 61, 62, 63] (some [2, 4, 58, 74]) none
   [⟨some 75, .bin .add (.t 63) (.c (.d (.int .i64 1))), [], [], none, none⟩,
    ⟨some 63, .mv (.t 75), [], [], none, none⟩]) (St.mk s o) Q =
 (demand (binV BinOp.add (s 63) (V.d (.int .i64 1))) (fun x1 =>
Q .normal (St.mk (look [(2, (s 2)), (4, (s 4)), (5, (s 5)), (8, (s 8)), (61, (s 61)), (62, (s 62)), (63, x1)]) (looko ([2, 4, 58, 74].map fun n => (n, o n)))))) := rfl

theorem g_law17_Ref_l1_sh {R_l1 : ACode} {R_c3 : ACode} {R_c4 : ACode} {C : Ctx} {I : Nat → Prop} {s : Nat → V} {o : Nat → Option Ob} {Q : Ex → St → Prop} (hL : R_l1 = .loop [2, 4, 5, 8, 61, 62, 63] (some [2, 4, 58, 74]) (.seq (.region [2, 4, 5, 8, 61, 62, 63, 64] (some [2, 4, 58, 74]) none
     [⟨some 64, .bin .lss (.t 63) (.t 62), [], [], none, none⟩])
  (.seq (.cond (.t 64) (.skip)
    (.exit 2))
   (.seq (.block 3 [2, 4, 5, 8, 61, 62, 63] (some [2, 4, 58, 74]) (.seq (.region [2, 4, 5, 8, 10, 61, 62, 63] (some [2, 4, 10, 58, 74]) none
         [⟨some 65, .iaddr 4 (.t 61) (.t 63), [], [], none, none⟩,
          ⟨some 66, .load (some 4) (.t 65), [], [], none, none⟩,
          ⟨some 10, .alloc 10 [.d (.int .i64 0), .d (.int .i64 0), .d (.int .i64 0), .d (.int .i64 0)], [], [], none, none⟩,
          ⟨none, .store 4 (.t 10) (.t 66), [], [], none, none⟩])
      (R_c3)))
    (R_c4)))))
 (h : demand (binV BinOp.lss (s 63) (s 62)) (fun x1 =>
condK x1
 (demand (iaddrV (looko ([2, 4, 58, 74].map fun n => (n, o n))) 4 (s 61) (s 63)) (fun x2 =>
demand (loadV (looko ([2, 4, 58, 74].map fun n => (n, o n))) (some 4) x2) (fun x3 =>
(¬ I 10 ∧ Fresh (St.mk (upd (upd (look [(2, (s 2)), (4, (s 4)), (5, (s 5)), (8, (s 8)), (61, (s 61)), (62, (s 62)), (63, (s 63)), (64, x1)]) 65 x2) 66 x3) (looko ([2, 4, 58, 74].map fun n => (n, o n)))) 10 (some 10) ∧ V.refsL 10 [V.d (.int .i64 0), V.d (.int .i64 0), V.d (.int .i64 0), V.d (.int .i64 0)] = false ∧
storeK (V.ptr 10 0) (cellsV x3) 4 (upd (looko ([2, 4, 58, 74].map fun n => (n, o n))) 10 (some (Ob.box [V.d (.int .i64 0), V.d (.int .i64 0), V.d (.int .i64 0), V.d (.int .i64 0)]))) (fun m4 ob5 =>
wpB C I R_c3 (St.mk (look [(2, (s 2)), (4, (s 4)), (5, (s 5)), (8, (s 8)), (10, (V.ptr 10 0)), (61, (s 61)), (62, (s 62)), (63, (s 63))]) (looko ([2, 4, 10, 58, 74].map fun n => (n, (upd (upd (looko ([2, 4, 58, 74].map fun n => (n, o n))) 10 (some (Ob.box [V.d (.int .i64 0), V.d (.int .i64 0), V.d (.int .i64 0), V.d (.int .i64 0)]))) m4 (some ob5)) n)))) (blockK 3 [2, 4, 5, 8, 61, 62, 63] (some [2, 4, 58, 74]) (seqK (fun st => wpB C I R_c4 st (seqK (fun s => wpB C I R_l1 s Q) Q)) (seqK (fun s => wpB C I R_l1 s Q) Q))))))))
 (Q (.exit 2) (St.mk (look [(2, (s 2)), (4, (s 4)), (5, (s 5)), (8, (s 8)), (61, (s 61)), (62, (s 62)), (63, (s 63)), (64, x1)]) (looko ([2, 4, 58, 74].map fun n => (n, o n))))))) : wpB C I R_l1 (St.mk s o) Q := w_loopC hL h

theorem g_law17_Ref_c5_sh {R_l1 : ACode} {C : Ctx} {I : Nat → Prop} {s : Nat → V} {o : Nat → Option Ob} {Q : Ex → St → Prop} : wpB C I (.block 2 [2, 4, 5, 8] (some [2, 4, 58, 74]) (R_l1)) (St.mk s o) Q =
 (wpB C I R_l1 (St.mk s o) (blockK 2 [2, 4, 5, 8] (some [2, 4, 58, 74]) Q)) := rfl

theorem g_law17_Ref_c6_sh {C : Ctx} {I : Nat → Prop} {s : Nat → V} {o : Nat → Option Ob} {Q : Ex → St → Prop} : wpB C I (.seq (.region [2] (some [2, 58, 74]) none
    [⟨some 81, .load (some 22) (.t 4), [], [], none, none⟩,
     ⟨none, .store 22 (.t 2) (.t 81), [], [], none, none⟩])
 (.ret)) (St.mk s o) Q =
 (demand (loadV o (some 22) (s 4)) (fun x1 =>
storeK (s 2) (cellsV x1) 22 o (fun m2 ob3 =>
Q .ret (St.mk (look [(2, (s 2))]) (looko ([2, 58, 74].map fun n => (n, (upd o m2 (some ob3)) n))))))) := rfl

theorem g_law17_Ref_c7_sh {R_c6 : ACode} {C : Ctx} {I : Nat → Prop} {s : Nat → V} {o : Nat → Option Ob} {Q : Ex → St → Prop} : wpB C I (.seq (.region [2, 4] (some [2, 4, 58, 74]) none
    [⟨some 76, .mv (.t 5), [], [], none, none⟩,
     ⟨some 77, .mv (.t 8), [], [], none, none⟩,
     ⟨some 78, .faddr 5 (.t 4), [], [], none, none⟩,
     ⟨some 79, .faddr 0 (.t 78), [], [], none, none⟩,
     ⟨none, .store 1 (.t 79) (.t 76), [], [], none, none⟩,
     ⟨some 80, .faddr 21 (.t 4), [], [], none, none⟩,
     ⟨none, .store 1 (.t 80) (.t 77), [], [], none, none⟩])
 (R_c6)) (St.mk s o) Q =
 (demand (faddrV 5 (s 4)) (fun x1 =>
demand (faddrV 0 x1) (fun x2 =>
storeK x2 (cellsV (s 5)) 1 o (fun m3 ob4 =>
demand (faddrV 21 (s 4)) (fun x5 =>
storeK x5 (cellsV (s 8)) 1 (upd o m3 (some ob4)) (fun m6 ob7 =>
wpB C I R_c6 (St.mk (look [(2, (s 2)), (4, (s 4))]) (looko ([2, 4, 58, 74].map fun n => (n, (upd (upd o m3 (some ob4)) m6 (some ob7)) n)))) Q)))))) := rfl

theorem g_law17_Ref_c8_sh {R_c5 : ACode} {R_c7 : ACode} {C : Ctx} {I : Nat → Prop} {s : Nat → V} {o : Nat → Option Ob} {Q : Ex → St → Prop} : wpB C I (.seq (.region [1, 2, 4, 5, 8] (some [1, 2, 4, 58, 74]) none
    [⟨some 8, .mv (.c (.cap0)), [], [], none, none⟩])
 (.seq (.seq (.region [2, 4, 5, 8, 61, 62, 63] (some [2, 4, 58, 74]) none
      [⟨some 60, .faddr 21 (.t 1), [], [], none, none⟩,
       ⟨some 61, .load none (.t 60), [], [], none, none⟩,
       ⟨some 62, .len (.t 61), [], [], none, none⟩,
       ⟨some 63, .mv (.c (.d (.int .i64 0))), [], [], none, none⟩])
   (R_c5))
  (R_c7))) (St.mk s o) Q =
 (demand (faddrV 21 (s 1)) (fun x1 =>
demand (loadV (looko ([1, 2, 4, 58, 74].map fun n => (n, o n))) none x1) (fun x2 =>
demand (lenV (looko ([1, 2, 4, 58, 74].map fun n => (n, o n))) x2) (fun x3 =>
wpB C I R_c5 (St.mk (look [(2, (s 2)), (4, (s 4)), (5, (s 5)), (8, (V.cap0)), (61, x2), (62, x3), (63, (V.d (.int .i64 0)))]) (looko ([2, 4, 58, 74].map fun n => (n, o n)))) (seqK (fun st => wpB C I R_c7 st Q) Q))))) := rfl

theorem g_law17_Ref_c9_sh {R_c2 : ACode} {R_c8 : ACode} {C : Ctx} {I : Nat → Prop} {s : Nat → V} {o : Nat → Option Ob} {Q : Ex → St → Prop} : wpB C I (.seq (.region [1, 2, 3, 4, 5] (some [1, 2, 3, 4, 58, 74]) none
    [⟨some 5, .mv (.c (.cap0)), [], [], none, none⟩])
 (.seq (.seq (.region [1, 2, 4, 5, 49, 50, 51] (some [1, 2, 4, 58, 74]) none
      [⟨some 48, .faddr 0 (.t 3), [], [], none, none⟩,
       ⟨some 49, .load none (.t 48), [], [], none, none⟩,
       ⟨some 50, .len (.t 49), [], [], none, none⟩,
       ⟨some 51, .mv (.c (.d (.int .i64 0))), [], [], none, none⟩])
   (R_c2))
  (R_c8))) (St.mk s o) Q =
 (demand (faddrV 0 (s 3)) (fun x1 =>
demand (loadV (looko ([1, 2, 3, 4, 58, 74].map fun n => (n, o n))) none x1) (fun x2 =>
demand (lenV (looko ([1, 2, 3, 4, 58, 74].map fun n => (n, o n))) x2) (fun x3 =>
wpB C I R_c2 (St.mk (look [(1, (s 1)), (2, (s 2)), (4, (s 4)), (5, (V.cap0)), (49, x2), (50, x3), (51, (V.d (.int .i64 0)))]) (looko ([1, 2, 4, 58, 74].map fun n => (n, o n)))) (seqK (fun st => wpB C I R_c8 st Q) Q))))) := rfl

theorem g_law17_Ref_c10_sh {R_o0 : List AOper} {R_c9 : ACode} {C : Ctx} {I : Nat → Prop} {s : Nat → V} {o : Nat → Option Ob} {Q : Ex → St → Prop} : wpB C I (.seq (.region [1, 2, 3, 4] (some [1, 2, 3, 4, 58, 74]) none
    (⟨some 24, .faddr 1 (.t 3), [], [], none, none⟩ ::
     ⟨some 25, .load (some 3) (.t 24), [], [], none, none⟩ ::
     ⟨some 26, .faddr 4 (.t 3), [], [], none, none⟩ ::
     ⟨some 27, .load (some 3) (.t 26), [], [], none, none⟩ ::
     ⟨some 28, .faddr 7 (.t 3), [], [], none, none⟩ ::
     ⟨some 29, .load none (.t 28), [], [], none, none⟩ ::
     ⟨some 30, .faddr 8 (.t 3), [], [], none, none⟩ ::
     ⟨some 31, .load none (.t 30), [], [], none, none⟩ ::
     ⟨some 32, .faddr 9 (.t 3), [], [], none, none⟩ ::
     ⟨some 33, .load none (.t 32), [], [], none, none⟩ ::
     ⟨some 34, .faddr 10 (.t 3), [], [], none, none⟩ ::
     ⟨some 35, .load none (.t 34), [], [], none, none⟩ ::
     ⟨some 36, .faddr 11 (.t 3), [], [], none, none⟩ ::
     ⟨some 37, .load none (.t 36), [], [], none, none⟩ ::
     ⟨some 38, .faddr 12 (.t 3), [], [], none, none⟩ ::
     ⟨some 39, .load none (.t 38), [], [], none, none⟩ ::
     ⟨some 40, .faddr 13 (.t 3), [], [], none, none⟩ ::
     ⟨some 41, .load none (.t 40), [], [], none, none⟩ ::
     ⟨some 42, .faddr 14 (.t 3), [], [], none, none⟩ ::
     ⟨some 43, .load none (.t 42), [], [], none, (some ([1, 2, 3, 4, 25, 27, 29, 31, 33, 35, 37, 39, 41, 43], (some [1, 2, 3, 4, 58, 74])))⟩ ::
     R_o0))
 (R_c9)) (St.mk s o) Q =
 (demand (faddrV 1 (s 3)) (fun x1 =>
demand (loadV o (some 3) x1) (fun x2 =>
demand (faddrV 4 (s 3)) (fun x3 =>
demand (loadV o (some 3) x3) (fun x4 =>
demand (faddrV 7 (s 3)) (fun x5 =>
demand (loadV o none x5) (fun x6 =>
demand (faddrV 8 (s 3)) (fun x7 =>
demand (loadV o none x7) (fun x8 =>
demand (faddrV 9 (s 3)) (fun x9 =>
demand (loadV o none x9) (fun x10 =>
demand (faddrV 10 (s 3)) (fun x11 =>
demand (loadV o none x11) (fun x12 =>
demand (faddrV 11 (s 3)) (fun x13 =>
demand (loadV o none x13) (fun x14 =>
demand (faddrV 12 (s 3)) (fun x15 =>
demand (loadV o none x15) (fun x16 =>
demand (faddrV 13 (s 3)) (fun x17 =>
demand (loadV o none x17) (fun x18 =>
demand (faddrV 14 (s 3)) (fun x19 =>
demand (loadV o none x19) (fun x20 =>
opsB C I R_o0 (St.mk (look [(1, (s 1)), (2, (s 2)), (3, (s 3)), (4, (s 4)), (25, x2), (27, x4), (29, x6), (31, x8), (33, x10), (35, x12), (37, x14), (39, x16), (41, x18), (43, x20)]) (looko ([1, 2, 3, 4, 58, 74].map fun n => (n, o n)))) (fun st => (seqK (fun st => wpB C I R_c9 st Q) Q) .normal (St.trim st [1, 2, 3, 4] (some [1, 2, 3, 4, 58, 74])))))))))))))))))))))))) := rfl

theorem g_law17_Ref_c11_sh {R_c10 : ACode} {C : Ctx} {I : Nat → Prop} {s : Nat → V} {o : Nat → Option Ob} {Q : Ex → St → Prop} : wpB C I (.seq (.region [1, 2, 3, 4] (some [1, 2, 3, 4, 58, 74]) none
    [⟨some 13, .faddr 0 (.t 1), [], [], none, none⟩,
     ⟨some 14, .load none (.t 13), [], [], none, none⟩,
     ⟨some 15, .faddr 1 (.t 1), [], [], none, none⟩,
     ⟨some 16, .load none (.t 15), [], [], none, none⟩,
     ⟨some 17, .faddr 2 (.t 1), [], [], none, none⟩,
     ⟨some 18, .load none (.t 17), [], [], none, none⟩,
     ⟨some 19, .faddr 3 (.t 1), [], [], none, none⟩,
     ⟨some 20, .load none (.t 19), [], [], none, none⟩,
     ⟨some 21, .faddr 4 (.t 1), [], [], none, none⟩,
     ⟨some 22, .load none (.t 21), [], [], none, none⟩,
     ⟨some 23, .build [.d (.int .i64 0), .d (.int .i64 0), .d (.int .i64 0), .d (.int .i64 0), .d (.int .i64 0), .cap0, .d (.int .i64 0), .d (.int .i64 0), .d (.int .i64 0), .d (.int .i64 0), .d (.int .i64 0), .d (.int .i64 0), .d (.int .i64 0), .d (.int .i64 0), .d (.int .i64 0), .d (.int .i64 0), .d (.int .i64 0), .d (.int .i64 0), .cap0, .cap0, .cap0, .cap0] [(0, 1, (.t 14)), (1, 1, (.t 16)), (2, 1, (.t 18)), (3, 1, (.t 20)), (4, 1, (.t 22))], [], [], none, none⟩,
     ⟨some 4, .alloc 4 [.d (.int .i64 0), .d (.int .i64 0), .d (.int .i64 0), .d (.int .i64 0), .d (.int .i64 0), .cap0, .d (.int .i64 0), .d (.int .i64 0), .d (.int .i64 0), .d (.int .i64 0), .d (.int .i64 0), .d (.int .i64 0), .d (.int .i64 0), .d (.int .i64 0), .d (.int .i64 0), .d (.int .i64 0), .d (.int .i64 0), .d (.int .i64 0), .cap0, .cap0, .cap0, .cap0], [], [], none, none⟩,
     ⟨none, .store 22 (.t 4) (.t 23), [], [], none, none⟩])
 (R_c10)) (St.mk s o) Q =
 (demand (faddrV 0 (s 1)) (fun x1 =>
demand (loadV o none x1) (fun x2 =>
demand (faddrV 1 (s 1)) (fun x3 =>
demand (loadV o none x3) (fun x4 =>
demand (faddrV 2 (s 1)) (fun x5 =>
demand (loadV o none x5) (fun x6 =>
demand (faddrV 3 (s 1)) (fun x7 =>
demand (loadV o none x7) (fun x8 =>
demand (faddrV 4 (s 1)) (fun x9 =>
demand (loadV o none x9) (fun x10 =>
demand ((buildN [V.d (.int .i64 0), V.d (.int .i64 0), V.d (.int .i64 0), V.d (.int .i64 0), V.d (.int .i64 0), V.cap0, V.d (.int .i64 0), V.d (.int .i64 0), V.d (.int .i64 0), V.d (.int .i64 0), V.d (.int .i64 0), V.d (.int .i64 0), V.d (.int .i64 0), V.d (.int .i64 0), V.d (.int .i64 0), V.d (.int .i64 0), V.d (.int .i64 0), V.d (.int .i64 0), V.cap0, V.cap0, V.cap0, V.cap0] [(0, 1, x2), (1, 1, x4), (2, 1, x6), (3, 1, x8), (4, 1, x10)]).map V.agg) (fun x11 =>
(¬ I 4 ∧ Fresh (St.mk (upd (upd (upd (upd (upd (upd (upd (upd (upd (upd (upd s 13 x1) 14 x2) 15 x3) 16 x4) 17 x5) 18 x6) 19 x7) 20 x8) 21 x9) 22 x10) 23 x11) o) 4 (some 4) ∧ V.refsL 4 [V.d (.int .i64 0), V.d (.int .i64 0), V.d (.int .i64 0), V.d (.int .i64 0), V.d (.int .i64 0), V.cap0, V.d (.int .i64 0), V.d (.int .i64 0), V.d (.int .i64 0), V.d (.int .i64 0), V.d (.int .i64 0), V.d (.int .i64 0), V.d (.int .i64 0), V.d (.int .i64 0), V.d (.int .i64 0), V.d (.int .i64 0), V.d (.int .i64 0), V.d (.int .i64 0), V.cap0, V.cap0, V.cap0, V.cap0] = false ∧
storeK (V.ptr 4 0) (cellsV x11) 22 (upd o 4 (some (Ob.box [V.d (.int .i64 0), V.d (.int .i64 0), V.d (.int .i64 0), V.d (.int .i64 0), V.d (.int .i64 0), V.cap0, V.d (.int .i64 0), V.d (.int .i64 0), V.d (.int .i64 0), V.d (.int .i64 0), V.d (.int .i64 0), V.d (.int .i64 0), V.d (.int .i64 0), V.d (.int .i64 0), V.d (.int .i64 0), V.d (.int .i64 0), V.d (.int .i64 0), V.d (.int .i64 0), V.cap0, V.cap0, V.cap0, V.cap0]))) (fun m12 ob13 =>
wpB C I R_c10 (St.mk (look [(1, (s 1)), (2, (s 2)), (3, (s 3)), (4, (V.ptr 4 0))]) (looko ([1, 2, 3, 4, 58, 74].map fun n => (n, (upd (upd o 4 (some (Ob.box [V.d (.int .i64 0), V.d (.int .i64 0), V.d (.int .i64 0), V.d (.int .i64 0), V.d (.int .i64 0), V.cap0, V.d (.int .i64 0), V.d (.int .i64 0), V.d (.int .i64 0), V.d (.int .i64 0), V.d (.int .i64 0), V.d (.int .i64 0), V.d (.int .i64 0), V.d (.int .i64 0), V.d (.int .i64 0), V.d (.int .i64 0), V.d (.int .i64 0), V.d (.int .i64 0), V.cap0, V.cap0, V.cap0, V.cap0]))) m12 (some ob13)) n)))) Q)))))))))))))) := rfl

theorem g_law17_Ref_code_sh {R_c11 : ACode} {C : Ctx} {I : Nat → Prop} {s : Nat → V} {o : Nat → Option Ob} {Q : Ex → St → Prop} : wpB C I (.seq (.region [1, 2] (some [1, 2, 58, 74]) none
    [⟨some 1, .box 1 22 (.t 0), [], [], none, none⟩,
     ⟨some 2, .alloc 2 [.d (.int .i64 0), .d (.int .i64 0), .d (.int .i64 0), .d (.int .i64 0), .d (.int .i64 0), .cap0, .d (.int .i64 0), .d (.int .i64 0), .d (.int .i64 0), .d (.int .i64 0), .d (.int .i64 0), .d (.int .i64 0), .d (.int .i64 0), .d (.int .i64 0), .d (.int .i64 0), .d (.int .i64 0), .d (.int .i64 0), .d (.int .i64 0), .cap0, .cap0, .cap0, .cap0], [], [], none, none⟩])
 (.seq (.region [1, 2, 3] (some [1, 2, 3, 58, 74]) none
     [⟨some 11, .faddr 5 (.t 1), [], [], none, none⟩,
      ⟨some 12, .load (some 16) (.t 11), [], [], none, none⟩,
      ⟨some 3, .alloc 3 [.cap0, .d (.int .i64 0), .d (.int .i64 0), .d (.int .i64 0), .d (.int .i64 0), .d (.int .i64 0), .d (.int .i64 0), .d (.int .i64 0), .d (.int .i64 0), .d (.int .i64 0), .d (.int .i64 0), .d (.int .i64 0), .d (.int .i64 0), .cap0, .cap0, .cap0], [], [], none, none⟩,
      ⟨none, .store 16 (.t 3) (.t 12), [], [], none, none⟩])
  (R_c11))) (St.mk s o) Q =
 (lstK (cellsV (s 0)) (fun c1 => c1.length = 22 ∧ ¬ I 1 ∧ Fresh (St.mk s o) 1 (some 1) ∧ V.refsL 1 c1 = false ∧
(¬ I 2 ∧ Fresh (St.mk (upd s 1 (V.ptr 1 0)) (upd o 1 (some (Ob.box c1)))) 2 (some 2) ∧ V.refsL 2 [V.d (.int .i64 0), V.d (.int .i64 0), V.d (.int .i64 0), V.d (.int .i64 0), V.d (.int .i64 0), V.cap0, V.d (.int .i64 0), V.d (.int .i64 0), V.d (.int .i64 0), V.d (.int .i64 0), V.d (.int .i64 0), V.d (.int .i64 0), V.d (.int .i64 0), V.d (.int .i64 0), V.d (.int .i64 0), V.d (.int .i64 0), V.d (.int .i64 0), V.d (.int .i64 0), V.cap0, V.cap0, V.cap0, V.cap0] = false ∧
demand (faddrV 5 (V.ptr 1 0)) (fun x2 =>
demand (loadV (looko ([1, 2, 58, 74].map fun n => (n, (upd (upd o 1 (some (Ob.box c1))) 2 (some (Ob.box [V.d (.int .i64 0), V.d (.int .i64 0), V.d (.int .i64 0), V.d (.int .i64 0), V.d (.int .i64 0), V.cap0, V.d (.int .i64 0), V.d (.int .i64 0), V.d (.int .i64 0), V.d (.int .i64 0), V.d (.int .i64 0), V.d (.int .i64 0), V.d (.int .i64 0), V.d (.int .i64 0), V.d (.int .i64 0), V.d (.int .i64 0), V.d (.int .i64 0), V.d (.int .i64 0), V.cap0, V.cap0, V.cap0, V.cap0]))) n))) (some 16) x2) (fun x3 =>
(¬ I 3 ∧ Fresh (St.mk (upd (upd (look [(1, (V.ptr 1 0)), (2, (V.ptr 2 0))]) 11 x2) 12 x3) (looko ([1, 2, 58, 74].map fun n => (n, (upd (upd o 1 (some (Ob.box c1))) 2 (some (Ob.box [V.d (.int .i64 0), V.d (.int .i64 0), V.d (.int .i64 0), V.d (.int .i64 0), V.d (.int .i64 0), V.cap0, V.d (.int .i64 0), V.d (.int .i64 0), V.d (.int .i64 0), V.d (.int .i64 0), V.d (.int .i64 0), V.d (.int .i64 0), V.d (.int .i64 0), V.d (.int .i64 0), V.d (.int .i64 0), V.d (.int .i64 0), V.d (.int .i64 0), V.d (.int .i64 0), V.cap0, V.cap0, V.cap0, V.cap0]))) n)))) 3 (some 3) ∧ V.refsL 3 [V.cap0, V.d (.int .i64 0), V.d (.int .i64 0), V.d (.int .i64 0), V.d (.int .i64 0), V.d (.int .i64 0), V.d (.int .i64 0), V.d (.int .i64 0), V.d (.int .i64 0), V.d (.int .i64 0), V.d (.int .i64 0), V.d (.int .i64 0), V.d (.int .i64 0), V.cap0, V.cap0, V.cap0] = false ∧
storeK (V.ptr 3 0) (cellsV x3) 16 (upd (looko ([1, 2, 58, 74].map fun n => (n, (upd (upd o 1 (some (Ob.box c1))) 2 (some (Ob.box [V.d (.int .i64 0), V.d (.int .i64 0), V.d (.int .i64 0), V.d (.int .i64 0), V.d (.int .i64 0), V.cap0, V.d (.int .i64 0), V.d (.int .i64 0), V.d (.int .i64 0), V.d (.int .i64 0), V.d (.int .i64 0), V.d (.int .i64 0), V.d (.int .i64 0), V.d (.int .i64 0), V.d (.int .i64 0), V.d (.int .i64 0), V.d (.int .i64 0), V.d (.int .i64 0), V.cap0, V.cap0, V.cap0, V.cap0]))) n))) 3 (some (Ob.box [V.cap0, V.d (.int .i64 0), V.d (.int .i64 0), V.d (.int .i64 0), V.d (.int .i64 0), V.d (.int .i64 0), V.d (.int .i64 0), V.d (.int .i64 0), V.d (.int .i64 0), V.d (.int .i64 0), V.d (.int .i64 0), V.d (.int .i64 0), V.d (.int .i64 0), V.cap0, V.cap0, V.cap0]))) (fun m4 ob5 =>
wpB C I R_c11 (St.mk (look [(1, (V.ptr 1 0)), (2, (V.ptr 2 0)), (3, (V.ptr 3 0))]) (looko ([1, 2, 3, 58, 74].map fun n => (n, (upd (upd (looko ([1, 2, 58, 74].map fun n => (n, (upd (upd o 1 (some (Ob.box c1))) 2 (some (Ob.box [V.d (.int .i64 0), V.d (.int .i64 0), V.d (.int .i64 0), V.d (.int .i64 0), V.d (.int .i64 0), V.cap0, V.d (.int .i64 0), V.d (.int .i64 0), V.d (.int .i64 0), V.d (.int .i64 0), V.d (.int .i64 0), V.d (.int .i64 0), V.d (.int .i64 0), V.d (.int .i64 0), V.d (.int .i64 0), V.d (.int .i64 0), V.d (.int .i64 0), V.d (.int .i64 0), V.cap0, V.cap0, V.cap0, V.cap0]))) n))) 3 (some (Ob.box [V.cap0, V.d (.int .i64 0), V.d (.int .i64 0), V.d (.int .i64 0), V.d (.int .i64 0), V.d (.int .i64 0), V.d (.int .i64 0), V.d (.int .i64 0), V.d (.int .i64 0), V.d (.int .i64 0), V.d (.int .i64 0), V.d (.int .i64 0), V.d (.int .i64 0), V.cap0, V.cap0, V.cap0]))) m4 (some ob5)) n)))) Q))))))) := rfl

theorem g_law17_same_c0_sh {C : Ctx} {I : Nat → Prop} {s : Nat → V} {o : Nat → Option Ob} {Q : Ex → St → Prop} : wpB C I (.region [1, 2, 13, 14] (some [2]) none
   [⟨some 29, .bin .add (.t 14) (.c (.d (.int .i64 1))), [], [], none, none⟩,
    ⟨some 14, .mv (.t 29), [], [], none, none⟩]) (St.mk s o) Q =
 (demand (binV BinOp.add (s 14) (V.d (.int .i64 1))) (fun x1 =>
Q .normal (St.mk (look [(1, (s 1)), (2, (s 2)), (13, (s 13)), (14, x1)]) (looko ([2].map fun n => (n, o n)))))) := rfl

theorem g_law17_same_l0_sh {R_l0 : ACode} {R_c0 : ACode} {C : Ctx} {I : Nat → Prop} {s : Nat → V} {o : Nat → Option Ob} {Q : Ex → St → Prop} (hL : R_l0 = .loop [1, 2, 13, 14] (some [2]) (.seq (.region [1, 2, 13, 14, 15] (some [2]) none
     [⟨some 15, .bin .lss (.t 14) (.t 13), [], [], none, none⟩])
  (.seq (.cond (.t 15) (.skip)
    (.exit 0))
   (.seq (.block 1 [1, 2, 13, 14] (some [2]) (.seq (.region [1, 2, 5, 13, 14] (some [2]) none
         [⟨some 16, .mv (.t 14), [], [], none, none⟩,
          ⟨some 5, .mv (.t 16), [], [], none, none⟩])
      (.seq (.region [1, 2, 13, 14, 28] (some [2]) (some ([0, 1, 2, 3, 4, 5, 6, 7, 8, 9, 10, 11], .done))
          [⟨some 17, .faddr 0 (.t 2), [], [], none, none⟩,
           ⟨some 18, .load none (.t 17), [], [0], none, none⟩,
           ⟨some 19, .mv (.t 5), [], [], none, none⟩,
           ⟨some 20, .iaddr 22 (.t 18) (.t 19), [], [1, 2], none, none⟩,
           ⟨some 21, .load (some 22) (.t 20), [], [3], none, none⟩,
           ⟨some 22, .call 12 [(.t 21)], [], [4], none, none⟩,
           ⟨some 23, .mv (.t 1), [], [], none, none⟩,
           ⟨some 24, .mv (.t 5), [], [], none, none⟩,
           ⟨some 25, .iaddr 22 (.t 23) (.t 24), [], [6, 7], none, none⟩,
           ⟨some 26, .load (some 22) (.t 25), [], [8], none, none⟩,
           ⟨some 27, .call 17 [(.t 22), (.t 26)], [], [5, 9, 5], none, none⟩,
           ⟨some 28, .un .not (.t 27), [], [10], none, none⟩])
       (.cond (.t 28) (.seq (.region [4] (some []) none
            [⟨some 4, .mv (.c (.d (.bool false))), [], [], none, none⟩])
         (.ret))
        (.skip)))))
    (R_c0)))))
 (h : demand (binV BinOp.lss (s 14) (s 13)) (fun x1 =>
condK x1
 (V.undef = V.undef ∧ (demand (faddrV 0 (s 2)) (fun x2 => quietV (looko ([2].map fun n => (n, o n))) (x2 :: [(s 2)]) ∧
V.undef = V.undef ∧ (demand (loadV (looko ([2].map fun n => (n, o n))) none x2) (fun x3 => quietV (looko ([2].map fun n => (n, o n))) (x3 :: [x2]) ∧
V.undef = V.undef ∧ (quietV (looko ([2].map fun n => (n, o n))) ((s 14) :: [(s 14)]) ∧
V.undef = V.undef ∧ (demand (iaddrV (looko ([2].map fun n => (n, o n))) 22 x3 (s 14)) (fun x5 => quietV (looko ([2].map fun n => (n, o n))) (x5 :: [x3, (s 14)]) ∧
V.undef = V.undef ∧ (demand (loadV (looko ([2].map fun n => (n, o n))) (some 22) x5) (fun x6 => quietV (looko ([2].map fun n => (n, o n))) (x6 :: [x5]) ∧
V.undef = V.undef ∧ (∃ x7, SoundAt C 12 ⟨[x6], fun _ => none⟩ ⟨x7, fun _ => none⟩ ∧ (∀ n, V.refs n x7 = false) ∧ quietV (looko ([2].map fun n => (n, o n))) (x7 :: [x6]) ∧
V.undef = V.undef ∧ (quietV (looko ([2].map fun n => (n, o n))) ((s 1) :: [(s 1)]) ∧
V.undef = V.undef ∧ (quietV (looko ([2].map fun n => (n, o n))) ((s 14) :: [(s 14)]) ∧
V.undef = V.undef ∧ (demand (iaddrV (looko ([2].map fun n => (n, o n))) 22 (s 1) (s 14)) (fun x10 => quietV (looko ([2].map fun n => (n, o n))) (x10 :: [(s 1), (s 14)]) ∧
V.undef = V.undef ∧ (demand (loadV (looko ([2].map fun n => (n, o n))) (some 22) x10) (fun x11 => quietV (looko ([2].map fun n => (n, o n))) (x11 :: [x10]) ∧
V.undef = V.undef ∧ (∃ x12, SoundAt C 17 ⟨[x7, x11], fun _ => none⟩ ⟨x12, fun _ => none⟩ ∧ (∀ n, V.refs n x12 = false) ∧ quietV (looko ([2].map fun n => (n, o n))) (x12 :: [x7, x11]) ∧
V.undef = V.undef ∧ (demand (unV UnOp.not x12) (fun x13 => quietV (looko ([2].map fun n => (n, o n))) (x13 :: [x12]) ∧
condK x13
 (Q .ret (St.mk (look [(4, (V.d (.bool false)))]) (looko ([].map fun n => (n, o n)))))
 (wpB C I R_c0 (St.mk (look [(1, (s 1)), (2, (s 2)), (13, (s 13)), (14, (s 14))]) (looko ([2].map fun n => (n, o n)))) (seqK (fun s => wpB C I R_l0 s Q) Q))))))))))))))))))))))
 (Q (.exit 0) (St.mk (look [(1, (s 1)), (2, (s 2)), (13, (s 13)), (14, (s 14)), (15, x1)]) (looko ([2].map fun n => (n, o n))))))) : wpB C I R_l0 (St.mk s o) Q := w_loopC hL h

theorem g_law17_same_c1_sh {C : Ctx} {I : Nat → Prop} {s : Nat → V} {o : Nat → Option Ob} {Q : Ex → St → Prop} : wpB C I (.seq (.region [4] (some []) none
    [⟨some 4, .mv (.c (.d (.bool true))), [], [], none, none⟩])
 (.ret)) (St.mk s o) Q =
 (Q .ret (St.mk (look [(4, (V.d (.bool true)))]) (looko ([].map fun n => (n, o n))))) := rfl

theorem g_law17_same_c2_sh {R_l0 : ACode} {R_c1 : ACode} {C : Ctx} {I : Nat → Prop} {s : Nat → V} {o : Nat → Option Ob} {Q : Ex → St → Prop} : wpB C I (.seq (.seq (.region [1, 2, 13, 14] (some [2]) none
     [⟨some 12, .mv (.t 1), [], [], none, none⟩,
      ⟨some 13, .len (.t 12), [], [], none, none⟩,
      ⟨some 14, .mv (.c (.d (.int .i64 0))), [], [], none, none⟩])
  (.block 0 [] (some []) (R_l0)))
 (R_c1)) (St.mk s o) Q =
 (demand (lenV o (s 1)) (fun x1 =>
wpB C I R_l0 (St.mk (look [(1, (s 1)), (2, (s 2)), (13, x1), (14, (V.d (.int .i64 0)))]) (looko ([2].map fun n => (n, o n)))) (blockK 0 [] (some []) (seqK (fun st => wpB C I R_c1 st Q) Q)))) := rfl

theorem g_law17_same_code_sh {R_c2 : ACode} {C : Ctx} {I : Nat → Prop} {s : Nat → V} {o : Nat → Option Ob} {Q : Ex → St → Prop} : wpB C I (.seq (.region [1, 2] (some [2]) none
    [⟨some 2, .box 2 1 (.t 0), [], [], none, none⟩,
     ⟨some 4, .mv (.c (.d (.bool false))), [], [], none, none⟩])
 (.seq (.seq (.region [1, 2, 11] (some [2]) none
      [⟨some 6, .faddr 0 (.t 2), [], [], none, none⟩,
       ⟨some 7, .load none (.t 6), [], [], none, none⟩,
       ⟨some 8, .len (.t 7), [], [], none, none⟩,
       ⟨some 9, .mv (.t 1), [], [], none, none⟩,
       ⟨some 10, .len (.t 9), [], [], none, none⟩,
       ⟨some 11, .bin .neq (.t 8) (.t 10), [], [], none, none⟩])
   (.cond (.t 11) (.seq (.region [4] (some []) none
        [⟨some 4, .mv (.c (.d (.bool false))), [], [], none, none⟩])
     (.ret))
    (.skip)))
  (R_c2))) (St.mk s o) Q =
 (lstK (cellsV (s 0)) (fun c1 => c1.length = 1 ∧ ¬ I 2 ∧ Fresh (St.mk s o) 2 (some 2) ∧ V.refsL 2 c1 = false ∧
demand (faddrV 0 (V.ptr 2 0)) (fun x2 =>
demand (loadV (looko ([2].map fun n => (n, (upd o 2 (some (Ob.box c1))) n))) none x2) (fun x3 =>
demand (lenV (looko ([2].map fun n => (n, (upd o 2 (some (Ob.box c1))) n))) x3) (fun x4 =>
demand (lenV (looko ([2].map fun n => (n, (upd o 2 (some (Ob.box c1))) n))) (s 1)) (fun x5 =>
demand (binV BinOp.neq x4 x5) (fun x6 =>
condK x6
 (Q .ret (St.mk (look [(4, (V.d (.bool false)))]) (looko ([].map fun n => (n, (upd o 2 (some (Ob.box c1))) n)))))
 (wpB C I R_c2 (St.mk (look [(1, (s 1)), (2, (V.ptr 2 0)), (11, x6)]) (looko ([2].map fun n => (n, (upd o 2 (some (Ob.box c1))) n)))) Q)))))))) := rfl

theorem g_book_Year_t2_sh {C : Ctx} {I : Nat → Prop} {s : Nat → V} {o : Nat → Option Ob} {K : St → Prop} : treeB C I g_book_Year.a0 (.one 6 .done) (St.mk s o) K =
 ((([] : List Nat) = [] ∧ (storeK (s 10) (cellsV (s 20)) 5 o (fun m1 ob2 =>
K (St.mk s (upd o m1 (some ob2))))))) := rfl

theorem g_book_Year_t3_sh {R_t2 : Tr} {C : Ctx} {I : Nat → Prop} {s : Nat → V} {o : Nat → Option Ob} {K : St → Prop} : treeB C I g_book_Year.a0 (.one 5 R_t2) (St.mk s o) K =
 ((([] : List Nat) = [] ∧ ((¬ I 10 ∧ Fresh (St.mk s o) 10 (some 10) ∧ V.refsL 10 [V.d (.int .i64 0), V.d (.int .i64 0), V.d (.int .i64 0), V.cap0, V.cap0] = false ∧
treeB C I g_book_Year.a0 R_t2 (St.mk (upd s 10 (V.ptr 10 0)) (upd o 10 (some (Ob.box [V.d (.int .i64 0), V.d (.int .i64 0), V.d (.int .i64 0), V.cap0, V.cap0])))) K)))) := rfl

theorem g_book_Year_t4_sh {R_t2 : Tr} {C : Ctx} {I : Nat → Prop} {s : Nat → V} {o : Nat → Option Ob} {K : St → Prop} : treeB C I g_book_Year.a0 (.one 4 R_t2) (St.mk s o) K =
 ((([] : List Nat) = [] ∧ (demand ((buildN [V.d (.int .i64 0), V.d (.int .i64 0), V.d (.int .i64 0), V.cap0, V.cap0] [(3, 1, (s 17)), (4, 1, (s 19))]).map V.agg) (fun x1 =>
treeB C I g_book_Year.a0 R_t2 (St.mk (upd s 20 x1) o) K)))) := rfl

theorem g_book_Year_t5_sh {R_t4 : Tr} {C : Ctx} {I : Nat → Prop} {s : Nat → V} {o : Nat → Option Ob} {K : St → Prop} : treeB C I g_book_Year.a0 (.one 5 R_t4) (St.mk s o) K =
 ((([] : List Nat) = [] ∧ ((¬ I 10 ∧ Fresh (St.mk s o) 10 (some 10) ∧ V.refsL 10 [V.d (.int .i64 0), V.d (.int .i64 0), V.d (.int .i64 0), V.cap0, V.cap0] = false ∧
treeB C I g_book_Year.a0 R_t4 (St.mk (upd s 10 (V.ptr 10 0)) (upd o 10 (some (Ob.box [V.d (.int .i64 0), V.d (.int .i64 0), V.d (.int .i64 0), V.cap0, V.cap0])))) K)))) := rfl

theorem g_book_Year_t6_sh {R_t3 : Tr} {R_t5 : Tr} {C : Ctx} {I : Nat → Prop} {s : Nat → V} {o : Nat → Option Ob} {K : St → Prop} : treeB C I g_book_Year.a0 (.two 4 R_t3 R_t5) (St.mk s o) K =
 ((([] : List Nat) = [] ∧ (demand ((buildN [V.d (.int .i64 0), V.d (.int .i64 0), V.d (.int .i64 0), V.cap0, V.cap0] [(3, 1, (s 17)), (4, 1, (s 19))]).map V.agg) (fun x1 =>
treeB C I g_book_Year.a0 R_t3 (St.mk (upd s 20 x1) o) K))) ∧ treeB C I g_book_Year.a0 R_t5 (St.mk s o) K) := rfl

theorem g_book_Year_t7_sh {R_t4 : Tr} {C : Ctx} {I : Nat → Prop} {s : Nat → V} {o : Nat → Option Ob} {K : St → Prop} : treeB C I g_book_Year.a0 (.one 3 R_t4) (St.mk s o) K =
 ((([] : List Nat) = [] ∧ (intK (s 18) (fun n1 => 0 ≤ n1 ∧ n1.toNat * 8 ≤ 140737488355328 ∧ n1 ≤ 140737488355328 ∧ ¬ I 19 ∧ Fresh (St.mk s o) 19 (some 19) ∧
treeB C I g_book_Year.a0 R_t4 (St.mk (upd s 19 (V.own 19)) (upd o 19 (some (Ob.row 1 (List.replicate n1.toNat [(.int .i64 0)]))))) K)))) := rfl

theorem g_book_Year_t8_sh {R_t7 : Tr} {C : Ctx} {I : Nat → Prop} {s : Nat → V} {o : Nat → Option Ob} {K : St → Prop} : treeB C I g_book_Year.a0 (.one 5 R_t7) (St.mk s o) K =
 ((([] : List Nat) = [] ∧ ((¬ I 10 ∧ Fresh (St.mk s o) 10 (some 10) ∧ V.refsL 10 [V.d (.int .i64 0), V.d (.int .i64 0), V.d (.int .i64 0), V.cap0, V.cap0] = false ∧
treeB C I g_book_Year.a0 R_t7 (St.mk (upd s 10 (V.ptr 10 0)) (upd o 10 (some (Ob.box [V.d (.int .i64 0), V.d (.int .i64 0), V.d (.int .i64 0), V.cap0, V.cap0])))) K)))) := rfl

theorem g_book_Year_t9_sh {R_t6 : Tr} {R_t8 : Tr} {C : Ctx} {I : Nat → Prop} {s : Nat → V} {o : Nat → Option Ob} {K : St → Prop} : treeB C I g_book_Year.a0 (.two 3 R_t6 R_t8) (St.mk s o) K =
 ((([] : List Nat) = [] ∧ (intK (s 18) (fun n1 => 0 ≤ n1 ∧ n1.toNat * 8 ≤ 140737488355328 ∧ n1 ≤ 140737488355328 ∧ ¬ I 19 ∧ Fresh (St.mk s o) 19 (some 19) ∧
treeB C I g_book_Year.a0 R_t6 (St.mk (upd s 19 (V.own 19)) (upd o 19 (some (Ob.row 1 (List.replicate n1.toNat [(.int .i64 0)]))))) K))) ∧ treeB C I g_book_Year.a0 R_t8 (St.mk s o) K) := rfl

theorem g_book_Year_t10_sh {R_t4 : Tr} {C : Ctx} {I : Nat → Prop} {s : Nat → V} {o : Nat → Option Ob} {K : St → Prop} : treeB C I g_book_Year.a0 (.one 1 R_t4) (St.mk s o) K =
 ((([] : List Nat) = [] ∧ (intK (s 16) (fun n1 => 0 ≤ n1 ∧ n1.toNat * 8 ≤ 140737488355328 ∧ n1 ≤ 140737488355328 ∧ ¬ I 17 ∧ Fresh (St.mk s o) 17 (some 17) ∧
treeB C I g_book_Year.a0 R_t4 (St.mk (upd s 17 (V.own 17)) (upd o 17 (some (Ob.row 1 (List.replicate n1.toNat [(.int .i64 0)]))))) K)))) := rfl

theorem g_book_Year_t11_sh {R_t10 : Tr} {C : Ctx} {I : Nat → Prop} {s : Nat → V} {o : Nat → Option Ob} {K : St → Prop} : treeB C I g_book_Year.a0 (.one 5 R_t10) (St.mk s o) K =
 ((([] : List Nat) = [] ∧ ((¬ I 10 ∧ Fresh (St.mk s o) 10 (some 10) ∧ V.refsL 10 [V.d (.int .i64 0), V.d (.int .i64 0), V.d (.int .i64 0), V.cap0, V.cap0] = false ∧
treeB C I g_book_Year.a0 R_t10 (St.mk (upd s 10 (V.ptr 10 0)) (upd o 10 (some (Ob.box [V.d (.int .i64 0), V.d (.int .i64 0), V.d (.int .i64 0), V.cap0, V.cap0])))) K)))) := rfl

theorem g_book_Year_t12_sh {R_t6 : Tr} {R_t11 : Tr} {C : Ctx} {I : Nat → Prop} {s : Nat → V} {o : Nat → Option Ob} {K : St → Prop} : treeB C I g_book_Year.a0 (.two 1 R_t6 R_t11) (St.mk s o) K =
 ((([] : List Nat) = [] ∧ (intK (s 16) (fun n1 => 0 ≤ n1 ∧ n1.toNat * 8 ≤ 140737488355328 ∧ n1 ≤ 140737488355328 ∧ ¬ I 17 ∧ Fresh (St.mk s o) 17 (some 17) ∧
treeB C I g_book_Year.a0 R_t6 (St.mk (upd s 17 (V.own 17)) (upd o 17 (some (Ob.row 1 (List.replicate n1.toNat [(.int .i64 0)]))))) K))) ∧ treeB C I g_book_Year.a0 R_t11 (St.mk s o) K) := rfl

theorem g_book_Year_t13_sh {R_t10 : Tr} {C : Ctx} {I : Nat → Prop} {s : Nat → V} {o : Nat → Option Ob} {K : St → Prop} : treeB C I g_book_Year.a0 (.one 3 R_t10) (St.mk s o) K =
 ((([] : List Nat) = [] ∧ (intK (s 18) (fun n1 => 0 ≤ n1 ∧ n1.toNat * 8 ≤ 140737488355328 ∧ n1 ≤ 140737488355328 ∧ ¬ I 19 ∧ Fresh (St.mk s o) 19 (some 19) ∧
treeB C I g_book_Year.a0 R_t10 (St.mk (upd s 19 (V.own 19)) (upd o 19 (some (Ob.row 1 (List.replicate n1.toNat [(.int .i64 0)]))))) K)))) := rfl

theorem g_book_Year_t14_sh {R_t7 : Tr} {R_t13 : Tr} {C : Ctx} {I : Nat → Prop} {s : Nat → V} {o : Nat → Option Ob} {K : St → Prop} : treeB C I g_book_Year.a0 (.two 1 R_t7 R_t13) (St.mk s o) K =
 ((([] : List Nat) = [] ∧ (intK (s 16) (fun n1 => 0 ≤ n1 ∧ n1.toNat * 8 ≤ 140737488355328 ∧ n1 ≤ 140737488355328 ∧ ¬ I 17 ∧ Fresh (St.mk s o) 17 (some 17) ∧
treeB C I g_book_Year.a0 R_t7 (St.mk (upd s 17 (V.own 17)) (upd o 17 (some (Ob.row 1 (List.replicate n1.toNat [(.int .i64 0)]))))) K))) ∧ treeB C I g_book_Year.a0 R_t13 (St.mk s o) K) := rfl

theorem g_book_Year_t15_sh {R_t14 : Tr} {C : Ctx} {I : Nat → Prop} {s : Nat → V} {o : Nat → Option Ob} {K : St → Prop} : treeB C I g_book_Year.a0 (.one 5 R_t14) (St.mk s o) K =
 ((([] : List Nat) = [] ∧ ((¬ I 10 ∧ Fresh (St.mk s o) 10 (some 10) ∧ V.refsL 10 [V.d (.int .i64 0), V.d (.int .i64 0), V.d (.int .i64 0), V.cap0, V.cap0] = false ∧
treeB C I g_book_Year.a0 R_t14 (St.mk (upd s 10 (V.ptr 10 0)) (upd o 10 (some (Ob.box [V.d (.int .i64 0), V.d (.int .i64 0), V.d (.int .i64 0), V.cap0, V.cap0])))) K)))) := rfl

theorem g_book_Year_t16_sh {R_t12 : Tr} {R_t15 : Tr} {C : Ctx} {I : Nat → Prop} {s : Nat → V} {o : Nat → Option Ob} {K : St → Prop} : treeB C I g_book_Year.a0 (.two 3 R_t12 R_t15) (St.mk s o) K =
 ((([] : List Nat) = [] ∧ (intK (s 18) (fun n1 => 0 ≤ n1 ∧ n1.toNat * 8 ≤ 140737488355328 ∧ n1 ≤ 140737488355328 ∧ ¬ I 19 ∧ Fresh (St.mk s o) 19 (some 19) ∧
treeB C I g_book_Year.a0 R_t12 (St.mk (upd s 19 (V.own 19)) (upd o 19 (some (Ob.row 1 (List.replicate n1.toNat [(.int .i64 0)]))))) K))) ∧ treeB C I g_book_Year.a0 R_t15 (St.mk s o) K) := rfl

theorem g_book_Year_t17_sh {R_t9 : Tr} {R_t16 : Tr} {C : Ctx} {I : Nat → Prop} {s : Nat → V} {o : Nat → Option Ob} {K : St → Prop} : treeB C I g_book_Year.a0 (.two 1 R_t9 R_t16) (St.mk s o) K =
 ((([] : List Nat) = [] ∧ (intK (s 16) (fun n1 => 0 ≤ n1 ∧ n1.toNat * 8 ≤ 140737488355328 ∧ n1 ≤ 140737488355328 ∧ ¬ I 17 ∧ Fresh (St.mk s o) 17 (some 17) ∧
treeB C I g_book_Year.a0 R_t9 (St.mk (upd s 17 (V.own 17)) (upd o 17 (some (Ob.row 1 (List.replicate n1.toNat [(.int .i64 0)]))))) K))) ∧ treeB C I g_book_Year.a0 R_t16 (St.mk s o) K) := rfl

theorem g_book_Year_i1_sh {R_t17 : Tr} {C : Ctx} {I : Nat → Prop} {s : Nat → V} {o : Nat → Option Ob} {K : St → Prop} : drawB C I g_book_Year.a0 (2 :: []) R_t17 (St.mk s o) K =
 ((s 18) = V.undef ∧ (quietV o ((s 9) :: [(s 9)]) ∧
treeB C I g_book_Year.a0 R_t17 (St.mk (upd s 18 (s 9)) o) K)) := rfl

theorem g_book_Year_c0_sh {C : Ctx} {I : Nat → Prop} {s : Nat → V} {o : Nat → Option Ob} {Q : Ex → St → Prop} : wpB C I (.region [2, 8, 10, 23, 24, 25] (some [8, 10, 17, 19]) none
   [⟨some 67, .faddr 4 (.t 10), [], [], none, none⟩,
    ⟨some 68, .load none (.t 67), [], [], none, none⟩,
    ⟨some 69, .faddr 5 (.t 12), [], [], none, none⟩,
    ⟨some 70, .faddr 14 (.t 69), [], [], none, none⟩,
    ⟨some 71, .load none (.t 70), [], [], none, none⟩,
    ⟨some 72, .call 19 [(.t 68), (.t 71)], [71], [], none, none⟩]) (St.mk s o) Q =
 (demand (faddrV 4 (s 10)) (fun x1 =>
demand (loadV o none x1) (fun x2 =>
demand (faddrV 5 (s 12)) (fun x3 =>
demand (faddrV 14 x3) (fun x4 =>
demand (loadV o none x4) (fun x5 =>
frzK (St.mk (upd (upd (upd (upd (upd s 67 x1) 68 x2) 69 x3) 70 x4) 71 x5) o) [71] (fun st6 =>
callK C I (St.mk st6.s st6.o) (some 72) 19 [(st6.s 68), (st6.s 71)] (fun r7 or7 =>
Q .normal (St.mk (look [(2, (st6.s 2)), (8, (st6.s 8)), (10, (st6.s 10)), (23, (st6.s 23)), (24, (st6.s 24)), (25, (st6.s 25))]) (looko ([8, 10, 17, 19].map fun n => (n, or7 n)))))))))))) := rfl

theorem g_book_Year_c1_sh {R_c0 : ACode} {C : Ctx} {I : Nat → Prop} {s : Nat → V} {o : Nat → Option Ob} {Q : Ex → St → Prop} : wpB C I (.seq (.region [2, 8, 10, 12, 23, 24, 25] (some [8, 10, 12, 17, 19]) none
    [⟨some 61, .faddr 3 (.t 10), [], [], none, none⟩,
     ⟨some 62, .load none (.t 61), [], [], none, none⟩,
     ⟨some 63, .faddr 5 (.t 12), [], [], none, none⟩,
     ⟨some 64, .faddr 13 (.t 63), [], [], none, none⟩,
     ⟨some 65, .load none (.t 64), [], [], none, none⟩,
     ⟨some 66, .call 19 [(.t 62), (.t 65)], [65], [], none, none⟩])
 (R_c0)) (St.mk s o) Q =
 (demand (faddrV 3 (s 10)) (fun x1 =>
demand (loadV o none x1) (fun x2 =>
demand (faddrV 5 (s 12)) (fun x3 =>
demand (faddrV 13 x3) (fun x4 =>
demand (loadV o none x4) (fun x5 =>
frzK (St.mk (upd (upd (upd (upd (upd s 61 x1) 62 x2) 63 x3) 64 x4) 65 x5) o) [65] (fun st6 =>
callK C I (St.mk st6.s st6.o) (some 66) 19 [(st6.s 62), (st6.s 65)] (fun r7 or7 =>
wpB C I R_c0 (St.mk (look [(2, (st6.s 2)), (8, (st6.s 8)), (10, (st6.s 10)), (12, (st6.s 12)), (23, (st6.s 23)), (24, (st6.s 24)), (25, (st6.s 25))]) (looko ([8, 10, 12, 17, 19].map fun n => (n, or7 n)))) Q)))))))) := rfl

theorem g_book_Year_c2_sh {R_c1 : ACode} {C : Ctx} {I : Nat → Prop} {s : Nat → V} {o : Nat → Option Ob} {Q : Ex → St → Prop} : wpB C I (.seq (.region [2, 8, 10, 12, 23, 24, 25] (some [8, 10, 12, 17, 19]) none
    [⟨some 54, .faddr 2 (.t 10), [], [], none, none⟩,
     ⟨some 55, .load none (.t 54), [], [], none, none⟩,
     ⟨some 56, .faddr 5 (.t 12), [], [], none, none⟩,
     ⟨some 57, .faddr 8 (.t 56), [], [], none, none⟩,
     ⟨some 58, .load none (.t 57), [], [], none, none⟩,
     ⟨some 59, .bin .add (.t 55) (.t 58), [], [], none, none⟩,
     ⟨some 60, .faddr 2 (.t 10), [], [], none, none⟩,
     ⟨none, .store 1 (.t 60) (.t 59), [], [], none, none⟩])
 (R_c1)) (St.mk s o) Q =
 (demand (faddrV 2 (s 10)) (fun x1 =>
demand (loadV o none x1) (fun x2 =>
demand (faddrV 5 (s 12)) (fun x3 =>
demand (faddrV 8 x3) (fun x4 =>
demand (loadV o none x4) (fun x5 =>
demand (binV BinOp.add x2 x5) (fun x6 =>
demand (faddrV 2 (s 10)) (fun x7 =>
storeK x7 (cellsV x6) 1 o (fun m8 ob9 =>
wpB C I R_c1 (St.mk (look [(2, (s 2)), (8, (s 8)), (10, (s 10)), (12, (s 12)), (23, (s 23)), (24, (s 24)), (25, (s 25))]) (looko ([8, 10, 12, 17, 19].map fun n => (n, (upd o m8 (some ob9)) n)))) Q))))))))) := rfl

theorem g_book_Year_c3_sh {R_c2 : ACode} {C : Ctx} {I : Nat → Prop} {s : Nat → V} {o : Nat → Option Ob} {Q : Ex → St → Prop} : wpB C I (.seq (.region [2, 8, 10, 12, 23, 24, 25] (some [8, 10, 12, 17, 19]) none
    [⟨some 41, .faddr 1 (.t 10), [], [], none, none⟩,
     ⟨some 42, .load none (.t 41), [], [], none, none⟩,
     ⟨some 43, .faddr 5 (.t 12), [], [], none, none⟩,
     ⟨some 44, .faddr 1 (.t 43), [], [], none, none⟩,
     ⟨some 45, .faddr 0 (.t 44), [], [], none, none⟩,
     ⟨some 46, .load none (.t 45), [], [], none, none⟩,
     ⟨some 47, .faddr 5 (.t 12), [], [], none, none⟩,
     ⟨some 48, .faddr 4 (.t 47), [], [], none, none⟩,
     ⟨some 49, .faddr 0 (.t 48), [], [], none, none⟩,
     ⟨some 50, .load none (.t 49), [], [], none, none⟩,
     ⟨some 51, .bin .add (.t 46) (.t 50), [], [], none, none⟩,
     ⟨some 52, .bin .add (.t 42) (.t 51), [], [], none, none⟩,
     ⟨some 53, .faddr 1 (.t 10), [], [], none, none⟩,
     ⟨none, .store 1 (.t 53) (.t 52), [], [], none, none⟩])
 (R_c2)) (St.mk s o) Q =
 (demand (faddrV 1 (s 10)) (fun x1 =>
demand (loadV o none x1) (fun x2 =>
demand (faddrV 5 (s 12)) (fun x3 =>
demand (faddrV 1 x3) (fun x4 =>
demand (faddrV 0 x4) (fun x5 =>
demand (loadV o none x5) (fun x6 =>
demand (faddrV 5 (s 12)) (fun x7 =>
demand (faddrV 4 x7) (fun x8 =>
demand (faddrV 0 x8) (fun x9 =>
demand (loadV o none x9) (fun x10 =>
demand (binV BinOp.add x6 x10) (fun x11 =>
demand (binV BinOp.add x2 x11) (fun x12 =>
demand (faddrV 1 (s 10)) (fun x13 =>
storeK x13 (cellsV x12) 1 o (fun m14 ob15 =>
wpB C I R_c2 (St.mk (look [(2, (s 2)), (8, (s 8)), (10, (s 10)), (12, (s 12)), (23, (s 23)), (24, (s 24)), (25, (s 25))]) (looko ([8, 10, 12, 17, 19].map fun n => (n, (upd o m14 (some ob15)) n)))) Q))))))))))))))) := rfl

theorem g_book_Year_c4_sh {R_c3 : ACode} {C : Ctx} {I : Nat → Prop} {s : Nat → V} {o : Nat → Option Ob} {Q : Ex → St → Prop} : wpB C I (.seq (.region [2, 8, 10, 12, 23, 24, 25] (some [8, 10, 12, 17, 19]) none
    [⟨some 34, .faddr 0 (.t 10), [], [], none, none⟩,
     ⟨some 35, .load none (.t 34), [], [], none, none⟩,
     ⟨some 36, .faddr 5 (.t 12), [], [], none, none⟩,
     ⟨some 37, .faddr 7 (.t 36), [], [], none, none⟩,
     ⟨some 38, .load none (.t 37), [], [], none, none⟩,
     ⟨some 39, .bin .add (.t 35) (.t 38), [], [], none, none⟩,
     ⟨some 40, .faddr 0 (.t 10), [], [], none, none⟩,
     ⟨none, .store 1 (.t 40) (.t 39), [], [], none, none⟩])
 (R_c3)) (St.mk s o) Q =
 (demand (faddrV 0 (s 10)) (fun x1 =>
demand (loadV o none x1) (fun x2 =>
demand (faddrV 5 (s 12)) (fun x3 =>
demand (faddrV 7 x3) (fun x4 =>
demand (loadV o none x4) (fun x5 =>
demand (binV BinOp.add x2 x5) (fun x6 =>
demand (faddrV 0 (s 10)) (fun x7 =>
storeK x7 (cellsV x6) 1 o (fun m8 ob9 =>
wpB C I R_c3 (St.mk (look [(2, (s 2)), (8, (s 8)), (10, (s 10)), (12, (s 12)), (23, (s 23)), (24, (s 24)), (25, (s 25))]) (looko ([8, 10, 12, 17, 19].map fun n => (n, (upd o m8 (some ob9)) n)))) Q))))))))) := rfl

theorem g_book_Year_c5_sh {R_c4 : ACode} {C : Ctx} {I : Nat → Prop} {s : Nat → V} {o : Nat → Option Ob} {Q : Ex → St → Prop} : wpB C I (.seq (.seq (.region [2, 8, 10, 12, 23, 24, 25, 33] (some [8, 10, 12, 17, 19]) none
     [⟨some 29, .faddr 1 (.t 12), [], [], none, none⟩,
      ⟨some 30, .load none (.t 29), [], [], none, none⟩,
      ⟨some 31, .bin .quo (.t 30) (.c (.d (.int .i64 12))), [], [], none, none⟩,
      ⟨some 32, .mv (.t 2), [], [], none, none⟩,
      ⟨some 33, .bin .neq (.t 31) (.t 32), [], [], none, none⟩])
  (.cond (.t 33) (.exit 1)
   (.skip)))
 (R_c4)) (St.mk s o) Q =
 (demand (faddrV 1 (s 12)) (fun x1 =>
demand (loadV o none x1) (fun x2 =>
demand (binV BinOp.quo x2 (V.d (.int .i64 12))) (fun x3 =>
demand (binV BinOp.neq x3 (s 2)) (fun x4 =>
condK x4
 (Q (.exit 1) (St.mk (look [(2, (s 2)), (8, (s 8)), (10, (s 10)), (12, (s 12)), (23, (s 23)), (24, (s 24)), (25, (s 25)), (33, x4)]) (looko ([8, 10, 12, 17, 19].map fun n => (n, o n)))))
 (wpB C I R_c4 (St.mk (look [(2, (s 2)), (8, (s 8)), (10, (s 10)), (12, (s 12)), (23, (s 23)), (24, (s 24)), (25, (s 25)), (33, x4)]) (looko ([8, 10, 12, 17, 19].map fun n => (n, o n)))) Q)))))) := rfl

theorem g_book_Year_c6_sh {C : Ctx} {I : Nat → Prop} {s : Nat → V} {o : Nat → Option Ob} {Q : Ex → St → Prop} : wpB C I (.region [2, 8, 10, 23, 24, 25] (some [8, 10, 17, 19]) none
   [⟨some 73, .bin .add (.t 25) (.c (.d (.int .i64 1))), [], [], none, none⟩,
    ⟨some 25, .mv (.t 73), [], [], none, none⟩]) (St.mk s o) Q =
 (demand (binV BinOp.add (s 25) (V.d (.int .i64 1))) (fun x1 =>
Q .normal (St.mk (look [(2, (s 2)), (8, (s 8)), (10, (s 10)), (23, (s 23)), (24, (s 24)), (25, x1)]) (looko ([8, 10, 17, 19].map fun n => (n, o n)))))) := rfl

theorem g_book_Year_l0_sh {R_l0 : ACode} {R_c5 : ACode} {R_c6 : ACode} {C : Ctx} {I : Nat → Prop} {s : Nat → V} {o : Nat → Option Ob} {Q : Ex → St → Prop} (hL : R_l0 = .loop [2, 8, 10, 23, 24, 25] (some [8, 10, 17, 19]) (.seq (.region [2, 8, 10, 23, 24, 25, 26] (some [8, 10, 17, 19]) none
     [⟨some 26, .bin .lss (.t 25) (.t 24), [], [], none, none⟩])
  (.seq (.cond (.t 26) (.skip)
    (.exit 0))
   (.seq (.block 1 [2, 8, 10, 23, 24, 25] (some [8, 10, 17, 19]) (.seq (.region [2, 8, 10, 12, 23, 24, 25] (some [8, 10, 12, 17, 19]) none
         [⟨some 27, .iaddr 22 (.t 23) (.t 25), [], [], none, none⟩,
          ⟨some 28, .load (some 22) (.t 27), [], [], none, none⟩,
          ⟨some 12, .alloc 12 [.d (.int .i64 0), .d (.int .i64 0), .d (.int .i64 0), .d (.int .i64 0), .d (.int .i64 0), .cap0, .d (.int .i64 0), .d (.int .i64 0), .d (.int .i64 0), .d (.int .i64 0), .d (.int .i64 0), .d (.int .i64 0), .d (.int .i64 0), .d (.int .i64 0), .d (.int .i64 0), .d (.int .i64 0), .d (.int .i64 0), .d (.int .i64 0), .cap0, .cap0, .cap0, .cap0], [], [], none, none⟩,
          ⟨none, .store 22 (.t 12) (.t 28), [], [], none, none⟩])
      (R_c5)))
    (R_c6)))))
 (h : demand (binV BinOp.lss (s 25) (s 24)) (fun x1 =>
condK x1
 (demand (iaddrV (looko ([8, 10, 17, 19].map fun n => (n, o n))) 22 (s 23) (s 25)) (fun x2 =>
demand (loadV (looko ([8, 10, 17, 19].map fun n => (n, o n))) (some 22) x2) (fun x3 =>
(¬ I 12 ∧ Fresh (St.mk (upd (upd (look [(2, (s 2)), (8, (s 8)), (10, (s 10)), (23, (s 23)), (24, (s 24)), (25, (s 25)), (26, x1)]) 27 x2) 28 x3) (looko ([8, 10, 17, 19].map fun n => (n, o n)))) 12 (some 12) ∧ V.refsL 12 [V.d (.int .i64 0), V.d (.int .i64 0), V.d (.int .i64 0), V.d (.int .i64 0), V.d (.int .i64 0), V.cap0, V.d (.int .i64 0), V.d (.int .i64 0), V.d (.int .i64 0), V.d (.int .i64 0), V.d (.int .i64 0), V.d (.int .i64 0), V.d (.int .i64 0), V.d (.int .i64 0), V.d (.int .i64 0), V.d (.int .i64 0), V.d (.int .i64 0), V.d (.int .i64 0), V.cap0, V.cap0, V.cap0, V.cap0] = false ∧
storeK (V.ptr 12 0) (cellsV x3) 22 (upd (looko ([8, 10, 17, 19].map fun n => (n, o n))) 12 (some (Ob.box [V.d (.int .i64 0), V.d (.int .i64 0), V.d (.int .i64 0), V.d (.int .i64 0), V.d (.int .i64 0), V.cap0, V.d (.int .i64 0), V.d (.int .i64 0), V.d (.int .i64 0), V.d (.int .i64 0), V.d (.int .i64 0), V.d (.int .i64 0), V.d (.int .i64 0), V.d (.int .i64 0), V.d (.int .i64 0), V.d (.int .i64 0), V.d (.int .i64 0), V.d (.int .i64 0), V.cap0, V.cap0, V.cap0, V.cap0]))) (fun m4 ob5 =>
wpB C I R_c5 (St.mk (look [(2, (s 2)), (8, (s 8)), (10, (s 10)), (12, (V.ptr 12 0)), (23, (s 23)), (24, (s 24)), (25, (s 25))]) (looko ([8, 10, 12, 17, 19].map fun n => (n, (upd (upd (looko ([8, 10, 17, 19].map fun n => (n, o n))) 12 (some (Ob.box [V.d (.int .i64 0), V.d (.int .i64 0), V.d (.int .i64 0), V.d (.int .i64 0), V.d (.int .i64 0), V.cap0, V.d (.int .i64 0), V.d (.int .i64 0), V.d (.int .i64 0), V.d (.int .i64 0), V.d (.int .i64 0), V.d (.int .i64 0), V.d (.int .i64 0), V.d (.int .i64 0), V.d (.int .i64 0), V.d (.int .i64 0), V.d (.int .i64 0), V.d (.int .i64 0), V.cap0, V.cap0, V.cap0, V.cap0]))) m4 (some ob5)) n)))) (blockK 1 [2, 8, 10, 23, 24, 25] (some [8, 10, 17, 19]) (seqK (fun st => wpB C I R_c6 st (seqK (fun s => wpB C I R_l0 s Q) Q)) (seqK (fun s => wpB C I R_l0 s Q) Q))))))))
 (Q (.exit 0) (St.mk (look [(2, (s 2)), (8, (s 8)), (10, (s 10)), (23, (s 23)), (24, (s 24)), (25, (s 25)), (26, x1)]) (looko ([8, 10, 17, 19].map fun n => (n, o n))))))) : wpB C I R_l0 (St.mk s o) Q := w_loopC hL h

theorem g_book_Year_c7_sh {R_l0 : ACode} {C : Ctx} {I : Nat → Prop} {s : Nat → V} {o : Nat → Option Ob} {Q : Ex → St → Prop} : wpB C I (.block 0 [8, 10] (some [8, 10, 17, 19]) (R_l0)) (St.mk s o) Q =
 (wpB C I R_l0 (St.mk s o) (blockK 0 [8, 10] (some [8, 10, 17, 19]) Q)) := rfl

theorem g_book_Year_c8_sh {C : Ctx} {I : Nat → Prop} {s : Nat → V} {o : Nat → Option Ob} {Q : Ex → St → Prop} : wpB C I (.seq (.region [8] (some [8, 17, 19]) none
    [⟨some 74, .load (some 5) (.t 10), [], [], none, none⟩,
     ⟨none, .store 5 (.t 8) (.t 74), [], [], none, none⟩])
 (.ret)) (St.mk s o) Q =
 (demand (loadV o (some 5) (s 10)) (fun x1 =>
storeK (s 8) (cellsV x1) 5 o (fun m2 ob3 =>
Q .ret (St.mk (look [(8, (s 8))]) (looko ([8, 17, 19].map fun n => (n, (upd o m2 (some ob3)) n))))))) := rfl

theorem g_book_Year_c9_sh {R_c7 : ACode} {R_c8 : ACode} {C : Ctx} {I : Nat → Prop} {s : Nat → V} {o : Nat → Option Ob} {Q : Ex → St → Prop} : wpB C I (.seq (.seq (.region [2, 8, 10, 23, 24, 25] (some [8, 10, 17, 19]) none
     [⟨some 21, .load (some 1) (.t 4), [], [], none, none⟩,
      ⟨some 22, .mv (.t 1), [], [], none, none⟩,
      ⟨some 23, .call 18 [(.t 21), (.t 22)], [], [], none, none⟩,
      ⟨some 24, .len (.t 23), [], [], none, none⟩,
      ⟨some 25, .mv (.c (.d (.int .i64 0))), [], [], none, none⟩])
  (R_c7))
 (R_c8)) (St.mk s o) Q =
 (demand (loadV o (some 1) (s 4)) (fun x1 =>
callK C I (St.mk (upd (upd s 21 x1) 22 (s 1)) o) (some 23) 18 [x1, (s 1)] (fun r2 or2 =>
demand (lenV or2 r2) (fun x3 =>
wpB C I R_c7 (St.mk (look [(2, (s 2)), (8, (s 8)), (10, (s 10)), (23, r2), (24, x3), (25, (V.d (.int .i64 0)))]) (looko ([8, 10, 17, 19].map fun n => (n, or2 n)))) (seqK (fun st => wpB C I R_c8 st Q) Q))))) := rfl

theorem g_book_Year_c10_sh {R_i1 : List Nat} {R_t17 : Tr} {R_c9 : ACode} {C : Ctx} {I : Nat → Prop} {s : Nat → V} {o : Nat → Option Ob} {Q : Ex → St → Prop} : wpB C I (.seq (.region [1, 2, 4, 8, 10] (some [4, 8, 10, 17, 19]) (some (0 :: R_i1, R_t17)) g_book_Year.a0)
 (R_c9)) (St.mk s o) Q =
 ((s 16) = V.undef ∧ (quietV o ((s 9) :: [(s 9)]) ∧
drawB C I g_book_Year.a0 R_i1 R_t17 (St.mk (upd s 16 (s 9)) o) (fun st => (seqK (fun st => wpB C I R_c9 st Q) Q) .normal (St.trim st [1, 2, 4, 8, 10] (some [4, 8, 10, 17, 19]))))) := rfl

theorem g_book_Year_code_sh {R_c10 : ACode} {C : Ctx} {I : Nat → Prop} {s : Nat → V} {o : Nat → Option Ob} {Q : Ex → St → Prop} : wpB C I (.seq (.region [1, 2, 3, 4, 8] (some [4, 8, 17, 19]) none
    [⟨some 4, .box 4 1 (.t 0), [], [], none, none⟩,
     ⟨some 8, .alloc 8 [.d (.int .i64 0), .d (.int .i64 0), .d (.int .i64 0), .cap0, .cap0], [], [], none, none⟩])
 (.seq (.region [1, 2, 4, 8, 9] (some [4, 8, 17, 19]) none
     [⟨some 13, .mv (.t 3), [], [], none, none⟩,
      ⟨some 14, .mm true [(.t 13), (.c (.d (.int .i64 0)))], [], [], none, none⟩,
      ⟨some 15, .mm false [(.t 14), (.c (.d (.int .i64 6)))], [], [], none, none⟩,
      ⟨some 9, .mv (.t 15), [], [], none, none⟩])
  (R_c10))) (St.mk s o) Q =
 (lstK (cellsV (s 0)) (fun c1 => c1.length = 1 ∧ ¬ I 4 ∧ Fresh (St.mk s o) 4 (some 4) ∧ V.refsL 4 c1 = false ∧
(¬ I 8 ∧ Fresh (St.mk (upd s 4 (V.ptr 4 0)) (upd o 4 (some (Ob.box c1)))) 8 (some 8) ∧ V.refsL 8 [V.d (.int .i64 0), V.d (.int .i64 0), V.d (.int .i64 0), V.cap0, V.cap0] = false ∧
demand (mmV true [(s 3), (V.d (.int .i64 0))]) (fun x2 =>
demand (mmV false [x2, (V.d (.int .i64 6))]) (fun x3 =>
wpB C I R_c10 (St.mk (look [(1, (s 1)), (2, (s 2)), (4, (V.ptr 4 0)), (8, (V.ptr 8 0)), (9, x3)]) (looko ([4, 8, 17, 19].map fun n => (n, (upd (upd o 4 (some (Ob.box c1))) 8 (some (Ob.box [V.d (.int .i64 0), V.d (.int .i64 0), V.d (.int .i64 0), V.cap0, V.cap0]))) n)))) Q))))) := rfl

theorem g_slices_Clone_Entry_code_sh {C : Ctx} {I : Nat → Prop} {s : Nat → V} {o : Nat → Option Ob} {Q : Ex → St → Prop} : wpB C I (.seq (.region [0] (some []) none
    [⟨some 2, .mv (.c (.cap0)), [], [], none, none⟩])
 (.seq (.seq (.region [0, 4] (some []) none
      [⟨some 3, .mv (.t 0), [], [], none, none⟩,
       ⟨some 4, .nilS false (.t 3), [], [], none, none⟩])
   (.cond (.t 4) (.seq (.region [2] (some [5, 7]) none
        [⟨some 2, .mv (.c (.cap0)), [], [], none, none⟩])
     (.ret))
    (.skip)))
  (.seq (.region [2] (some [5, 7]) none
      [⟨some 5, .bsl (some 5) 22 [] 0 [], [], [], none, none⟩,
       ⟨some 6, .mv (.t 0), [], [], none, none⟩,
       ⟨some 7, .app (some 7) 22 256 (.t 5) (.t 6), [], [], none, none⟩,
       ⟨some 2, .mv (.t 7), [], [], none, none⟩])
   (.ret)))) (St.mk s o) Q =
 (nilSK false (s 0) (fun x1 =>
condK x1
 (Q .ret (St.mk (look [(2, (V.cap0))]) (looko ([5, 7].map fun n => (n, (looko ([].map fun n => (n, o n))) n)))))
 (lstK (readD (looko ([].map fun n => (n, o n))) (s 0)) (fun ys3 => (∀ e ∈ ys3, e.length = 22) ∧ appK V.cap0
 (ys3.length * 256 ≤ 140737488355328 ∧ ys3.length ≤ 140737488355328 ∧ ¬ I 7 ∧ Fresh (St.mk (upd (upd (look [(0, (s 0)), (4, x1)]) 5 V.cap0) 6 (s 0)) (looko ([].map fun n => (n, o n)))) 7 (some 7) ∧
Q .ret (St.mk (look [(2, (V.own 7))]) (looko ([5, 7].map fun n => (n, (upd (looko ([].map fun n => (n, o n))) 7 (some (Ob.row 22 ys3))) n)))))
 (fun m4 => ¬ I m4 ∧ rowK ((looko ([].map fun n => (n, o n))) m4) (fun z5 es6 => z5 = 22 ∧ (es6.length + ys3.length) * 256 ≤ 140737488355328 ∧ es6.length + ys3.length ≤ 140737488355328 ∧
Q .ret (St.mk (look [(2, (V.own m4))]) (looko ([5, 7].map fun n => (n, (upd (fun n => ((looko ([].map fun n => (n, o n))) n).map (Ob.scrub m4)) m4 (some (Ob.row 22 (es6 ++ ys3)))) n)))))))))) := rfl

theorem g_slices_ContainsFunc_Entry_code_sh {C : Ctx} {I : Nat → Prop} {s : Nat → V} {o : Nat → Option Ob} {Q : Ex → St → Prop} : wpB C I (.seq (.region [0, 1] none none
    [⟨some 4, .mv (.c (.d (.bool false))), [], [], none, none⟩])
 (.seq (.region [4] none none
     [⟨some 5, .mv (.t 0), [], [], none, none⟩,
      ⟨some 6, .mv (.t 1), [], [], none, none⟩,
      ⟨some 7, .call 16 [(.t 5), (.t 6)], [], [], none, none⟩,
      ⟨some 8, .bin .geq (.t 7) (.c (.d (.int .i64 0))), [], [], none, none⟩,
      ⟨some 4, .mv (.t 8), [], [], none, none⟩])
  (.ret))) (St.mk s o) Q =
 (callK C I (St.mk (upd (upd (look [(0, (s 0)), (1, (s 1))]) 5 (s 0)) 6 (s 1)) o) (some 7) 16 [(s 0), (s 1)] (fun r1 or1 =>
demand (binV BinOp.geq r1 (V.d (.int .i64 0))) (fun x2 =>
Q .ret (St.mk (look [(4, x2)]) or1)))) := rfl

theorem g_book_Live_1_code_sh {C : Ctx} {I : Nat → Prop} {s : Nat → V} {o : Nat → Option Ob} {Q : Ex → St → Prop} : wpB C I (.seq (.region [1, 2] none none
    [⟨some 2, .box 2 22 (.t 0), [], [], none, none⟩,
     ⟨some 3, .mv (.c (.d (.bool false))), [], [], none, none⟩])
 (.seq (.region [3] none none
     [⟨some 4, .faddr 4 (.t 2), [], [], none, none⟩,
      ⟨some 5, .load none (.t 4), [], [], none, none⟩,
      ⟨some 6, .load none (.t 1), [], [], none, none⟩,
      ⟨some 7, .bin .add (.t 6) (.c (.d (.int .i64 1))), [], [], none, none⟩,
      ⟨some 8, .bin .eql (.t 5) (.t 7), [], [], none, none⟩,
      ⟨some 3, .mv (.t 8), [], [], none, none⟩])
  (.ret))) (St.mk s o) Q =
 (lstK (cellsV (s 0)) (fun c1 => c1.length = 22 ∧ ¬ I 2 ∧ Fresh (St.mk s o) 2 (some 2) ∧ V.refsL 2 c1 = false ∧
demand (faddrV 4 (V.ptr 2 0)) (fun x2 =>
demand (loadV (upd o 2 (some (Ob.box c1))) none x2) (fun x3 =>
demand (loadV (upd o 2 (some (Ob.box c1))) none (s 1)) (fun x4 =>
demand (binV BinOp.add x4 (V.d (.int .i64 1))) (fun x5 =>
demand (binV BinOp.eql x3 x5) (fun x6 =>
Q .ret (St.mk (look [(3, x6)]) (upd o 2 (some (Ob.box c1))))))))))) := rfl

theorem g_ref17_Same_o11_sh {C : Ctx} {I : Nat → Prop} {s : Nat → V} {o : Nat → Option Ob} {K : St → Prop} : opsB C I [⟨some 55, .pick (.t 47) (.c (.d (.bool true))) (.t 54), [], [], none, none⟩] (St.mk s o) K =
 (demand (pickV (s 47) (V.d (.bool true)) (s 54)) (fun x1 =>
K (St.mk (upd s 55 x1) o))) := rfl

theorem g_ref17_Same_o10_sh {R_o11 : List AOper} {C : Ctx} {I : Nat → Prop} {s : Nat → V} {o : Nat → Option Ob} {K : St → Prop} : opsB C I (⟨some 48, .faddr 21 (.t 2), [], [], (some (41, 47, false)), none⟩ ::
     ⟨some 49, .load none (.t 48), [], [], (some (41, 47, false)), none⟩ ::
     ⟨some 50, .len (.t 49), [], [], (some (41, 47, false)), none⟩ ::
     ⟨some 51, .faddr 21 (.t 3), [], [], (some (41, 47, false)), none⟩ ::
     ⟨some 52, .load none (.t 51), [], [], (some (41, 47, false)), none⟩ ::
     ⟨some 53, .len (.t 52), [], [], (some (41, 47, false)), none⟩ ::
     ⟨some 54, .bin .neq (.t 50) (.t 53), [], [], (some (41, 47, false)), (some ([2, 3, 47, 54], (some [2, 3])))⟩ ::
     R_o11) (St.mk s o) K =
 (guardK (s 47) false
 (demand (faddrV 21 (s 2)) (fun x1 =>
demand (loadV o none x1) (fun x2 =>
demand (lenV o x2) (fun x3 =>
demand (faddrV 21 (s 3)) (fun x4 =>
demand (loadV o none x4) (fun x5 =>
demand (lenV o x5) (fun x6 =>
demand (binV BinOp.neq x3 x6) (fun x7 =>
opsB C I R_o11 (St.mk (look [(2, (s 2)), (3, (s 3)), (47, (V.d (D.bool false))), (54, x7)]) (looko ([2, 3].map fun n => (n, o n)))) K))))))))
 (opsB C I R_o11 (St.mk (look [(2, (s 2)), (3, (s 3)), (47, (V.d (D.bool true))), (54, (V.tup []))]) (looko ([2, 3].map fun n => (n, o n)))) K)
 (opsB C I R_o11 (St.mk (look [(2, (s 2)), (3, (s 3)), (47, (V.tup [])), (54, (V.tup []))]) (looko ([2, 3].map fun n => (n, o n)))) K)) := rfl

theorem g_ref17_Same_o9_sh {R_o10 : List AOper} {C : Ctx} {I : Nat → Prop} {s : Nat → V} {o : Nat → Option Ob} {K : St → Prop} : opsB C I (⟨some 46, .pick (.t 39) (.c (.d (.bool true))) (.t 45), [], [], none, none⟩ ::
     ⟨some 47, .mv (.t 46), [], [], none, (some ([2, 3, 47], (some [2, 3])))⟩ ::
     R_o10) (St.mk s o) K =
 (demand (pickV (s 39) (V.d (.bool true)) (s 45)) (fun x1 =>
opsB C I R_o10 (St.mk (look [(2, (s 2)), (3, (s 3)), (47, x1)]) (looko ([2, 3].map fun n => (n, o n)))) K)) := rfl

theorem g_ref17_Same_o8_sh {R_o9 : List AOper} {C : Ctx} {I : Nat → Prop} {s : Nat → V} {o : Nat → Option Ob} {K : St → Prop} : opsB C I (⟨some 40, .faddr 5 (.t 2), [], [], (some (33, 39, false)), none⟩ ::
     ⟨some 41, .load (some 16) (.t 40), [], [], (some (33, 39, false)), none⟩ ::
     ⟨some 42, .faddr 5 (.t 3), [], [], (some (33, 39, false)), none⟩ ::
     ⟨some 43, .load (some 16) (.t 42), [], [], (some (33, 39, false)), none⟩ ::
     ⟨some 44, .call 20 [(.t 41), (.t 43)], [], [], (some (33, 39, false)), none⟩ ::
     ⟨some 45, .un .not (.t 44), [], [], (some (33, 39, false)), (some ([2, 3, 39, 45], (some [2, 3])))⟩ ::
     R_o9) (St.mk s o) K =
 (guardK (s 39) false
 (demand (faddrV 5 (s 2)) (fun x1 =>
demand (loadV o (some 16) x1) (fun x2 =>
demand (faddrV 5 (s 3)) (fun x3 =>
demand (loadV o (some 16) x3) (fun x4 =>
callK C I (St.mk (upd (upd (upd (upd (upd (upd (upd (upd (upd s 39 (V.d (D.bool false))) 40 x1) 39 (V.d (D.bool false))) 41 x2) 39 (V.d (D.bool false))) 42 x3) 39 (V.d (D.bool false))) 43 x4) 39 (V.d (D.bool false))) o) (some 44) 20 [x2, x4] (fun r5 or5 =>
demand (unV UnOp.not r5) (fun x6 =>
opsB C I R_o9 (St.mk (look [(2, (s 2)), (3, (s 3)), (39, (V.d (D.bool false))), (45, x6)]) (looko ([2, 3].map fun n => (n, or5 n)))) K)))))))
 (opsB C I R_o9 (St.mk (look [(2, (s 2)), (3, (s 3)), (39, (V.d (D.bool true))), (45, (V.tup []))]) (looko ([2, 3].map fun n => (n, o n)))) K)
 (opsB C I R_o9 (St.mk (look [(2, (s 2)), (3, (s 3)), (39, (V.tup [])), (45, (V.tup []))]) (looko ([2, 3].map fun n => (n, o n)))) K)) := rfl

theorem g_ref17_Same_o7_sh {R_o8 : List AOper} {C : Ctx} {I : Nat → Prop} {s : Nat → V} {o : Nat → Option Ob} {K : St → Prop} : opsB C I (⟨some 38, .pick (.t 32) (.c (.d (.bool true))) (.t 37), [], [], none, none⟩ ::
     ⟨some 39, .mv (.t 38), [], [], none, (some ([2, 3, 39], (some [2, 3])))⟩ ::
     R_o8) (St.mk s o) K =
 (demand (pickV (s 32) (V.d (.bool true)) (s 37)) (fun x1 =>
opsB C I R_o8 (St.mk (look [(2, (s 2)), (3, (s 3)), (39, x1)]) (looko ([2, 3].map fun n => (n, o n)))) K)) := rfl

theorem g_ref17_Same_o6_sh {R_o7 : List AOper} {C : Ctx} {I : Nat → Prop} {s : Nat → V} {o : Nat → Option Ob} {K : St → Prop} : opsB C I (⟨some 33, .faddr 4 (.t 2), [], [], (some (26, 32, false)), none⟩ ::
     ⟨some 34, .load none (.t 33), [], [], (some (26, 32, false)), none⟩ ::
     ⟨some 35, .faddr 4 (.t 3), [], [], (some (26, 32, false)), none⟩ ::
     ⟨some 36, .load none (.t 35), [], [], (some (26, 32, false)), none⟩ ::
     ⟨some 37, .bin .neq (.t 34) (.t 36), [], [], (some (26, 32, false)), (some ([2, 3, 32, 37], (some [2, 3])))⟩ ::
     R_o7) (St.mk s o) K =
 (guardK (s 32) false
 (demand (faddrV 4 (s 2)) (fun x1 =>
demand (loadV o none x1) (fun x2 =>
demand (faddrV 4 (s 3)) (fun x3 =>
demand (loadV o none x3) (fun x4 =>
demand (binV BinOp.neq x2 x4) (fun x5 =>
opsB C I R_o7 (St.mk (look [(2, (s 2)), (3, (s 3)), (32, (V.d (D.bool false))), (37, x5)]) (looko ([2, 3].map fun n => (n, o n)))) K))))))
 (opsB C I R_o7 (St.mk (look [(2, (s 2)), (3, (s 3)), (32, (V.d (D.bool true))), (37, (V.tup []))]) (looko ([2, 3].map fun n => (n, o n)))) K)
 (opsB C I R_o7 (St.mk (look [(2, (s 2)), (3, (s 3)), (32, (V.tup [])), (37, (V.tup []))]) (looko ([2, 3].map fun n => (n, o n)))) K)) := rfl

theorem g_ref17_Same_o5_sh {R_o6 : List AOper} {C : Ctx} {I : Nat → Prop} {s : Nat → V} {o : Nat → Option Ob} {K : St → Prop} : opsB C I (⟨some 31, .pick (.t 25) (.c (.d (.bool true))) (.t 30), [], [], none, none⟩ ::
     ⟨some 32, .mv (.t 31), [], [], none, (some ([2, 3, 32], (some [2, 3])))⟩ ::
     R_o6) (St.mk s o) K =
 (demand (pickV (s 25) (V.d (.bool true)) (s 30)) (fun x1 =>
opsB C I R_o6 (St.mk (look [(2, (s 2)), (3, (s 3)), (32, x1)]) (looko ([2, 3].map fun n => (n, o n)))) K)) := rfl

theorem g_ref17_Same_o4_sh {R_o5 : List AOper} {C : Ctx} {I : Nat → Prop} {s : Nat → V} {o : Nat → Option Ob} {K : St → Prop} : opsB C I (⟨some 26, .faddr 3 (.t 2), [], [], (some (19, 25, false)), none⟩ ::
     ⟨some 27, .load none (.t 26), [], [], (some (19, 25, false)), none⟩ ::
     ⟨some 28, .faddr 3 (.t 3), [], [], (some (19, 25, false)), none⟩ ::
     ⟨some 29, .load none (.t 28), [], [], (some (19, 25, false)), none⟩ ::
     ⟨some 30, .bin .neq (.t 27) (.t 29), [], [], (some (19, 25, false)), (some ([2, 3, 25, 30], (some [2, 3])))⟩ ::
     R_o5) (St.mk s o) K =
 (guardK (s 25) false
 (demand (faddrV 3 (s 2)) (fun x1 =>
demand (loadV o none x1) (fun x2 =>
demand (faddrV 3 (s 3)) (fun x3 =>
demand (loadV o none x3) (fun x4 =>
demand (binV BinOp.neq x2 x4) (fun x5 =>
opsB C I R_o5 (St.mk (look [(2, (s 2)), (3, (s 3)), (25, (V.d (D.bool false))), (30, x5)]) (looko ([2, 3].map fun n => (n, o n)))) K))))))
 (opsB C I R_o5 (St.mk (look [(2, (s 2)), (3, (s 3)), (25, (V.d (D.bool true))), (30, (V.tup []))]) (looko ([2, 3].map fun n => (n, o n)))) K)
 (opsB C I R_o5 (St.mk (look [(2, (s 2)), (3, (s 3)), (25, (V.tup [])), (30, (V.tup []))]) (looko ([2, 3].map fun n => (n, o n)))) K)) := rfl

theorem g_ref17_Same_o3_sh {R_o4 : List AOper} {C : Ctx} {I : Nat → Prop} {s : Nat → V} {o : Nat → Option Ob} {K : St → Prop} : opsB C I (⟨some 24, .pick (.t 18) (.c (.d (.bool true))) (.t 23), [], [], none, none⟩ ::
     ⟨some 25, .mv (.t 24), [], [], none, (some ([2, 3, 25], (some [2, 3])))⟩ ::
     R_o4) (St.mk s o) K =
 (demand (pickV (s 18) (V.d (.bool true)) (s 23)) (fun x1 =>
opsB C I R_o4 (St.mk (look [(2, (s 2)), (3, (s 3)), (25, x1)]) (looko ([2, 3].map fun n => (n, o n)))) K)) := rfl

theorem g_ref17_Same_o2_sh {R_o3 : List AOper} {C : Ctx} {I : Nat → Prop} {s : Nat → V} {o : Nat → Option Ob} {K : St → Prop} : opsB C I (⟨some 19, .faddr 2 (.t 2), [], [], (some (12, 18, false)), none⟩ ::
     ⟨some 20, .load none (.t 19), [], [], (some (12, 18, false)), none⟩ ::
     ⟨some 21, .faddr 2 (.t 3), [], [], (some (12, 18, false)), none⟩ ::
     ⟨some 22, .load none (.t 21), [], [], (some (12, 18, false)), none⟩ ::
     ⟨some 23, .bin .neq (.t 20) (.t 22), [], [], (some (12, 18, false)), (some ([2, 3, 18, 23], (some [2, 3])))⟩ ::
     R_o3) (St.mk s o) K =
 (guardK (s 18) false
 (demand (faddrV 2 (s 2)) (fun x1 =>
demand (loadV o none x1) (fun x2 =>
demand (faddrV 2 (s 3)) (fun x3 =>
demand (loadV o none x3) (fun x4 =>
demand (binV BinOp.neq x2 x4) (fun x5 =>
opsB C I R_o3 (St.mk (look [(2, (s 2)), (3, (s 3)), (18, (V.d (D.bool false))), (23, x5)]) (looko ([2, 3].map fun n => (n, o n)))) K))))))
 (opsB C I R_o3 (St.mk (look [(2, (s 2)), (3, (s 3)), (18, (V.d (D.bool true))), (23, (V.tup []))]) (looko ([2, 3].map fun n => (n, o n)))) K)
 (opsB C I R_o3 (St.mk (look [(2, (s 2)), (3, (s 3)), (18, (V.tup [])), (23, (V.tup []))]) (looko ([2, 3].map fun n => (n, o n)))) K)) := rfl

theorem g_ref17_Same_o1_sh {R_o2 : List AOper} {C : Ctx} {I : Nat → Prop} {s : Nat → V} {o : Nat → Option Ob} {K : St → Prop} : opsB C I (⟨some 17, .pick (.t 11) (.c (.d (.bool true))) (.t 16), [], [], none, none⟩ ::
     ⟨some 18, .mv (.t 17), [], [], none, (some ([2, 3, 18], (some [2, 3])))⟩ ::
     R_o2) (St.mk s o) K =
 (demand (pickV (s 11) (V.d (.bool true)) (s 16)) (fun x1 =>
opsB C I R_o2 (St.mk (look [(2, (s 2)), (3, (s 3)), (18, x1)]) (looko ([2, 3].map fun n => (n, o n)))) K)) := rfl

theorem g_ref17_Same_o0_sh {R_o1 : List AOper} {C : Ctx} {I : Nat → Prop} {s : Nat → V} {o : Nat → Option Ob} {K : St → Prop} : opsB C I (⟨some 12, .faddr 1 (.t 2), [], [], (some (5, 11, false)), none⟩ ::
     ⟨some 13, .load none (.t 12), [], [], (some (5, 11, false)), none⟩ ::
     ⟨some 14, .faddr 1 (.t 3), [], [], (some (5, 11, false)), none⟩ ::
     ⟨some 15, .load none (.t 14), [], [], (some (5, 11, false)), none⟩ ::
     ⟨some 16, .bin .neq (.t 13) (.t 15), [], [], (some (5, 11, false)), (some ([2, 3, 11, 16], (some [2, 3])))⟩ ::
     R_o1) (St.mk s o) K =
 (guardK (s 11) false
 (demand (faddrV 1 (s 2)) (fun x1 =>
demand (loadV o none x1) (fun x2 =>
demand (faddrV 1 (s 3)) (fun x3 =>
demand (loadV o none x3) (fun x4 =>
demand (binV BinOp.neq x2 x4) (fun x5 =>
opsB C I R_o1 (St.mk (look [(2, (s 2)), (3, (s 3)), (11, (V.d (D.bool false))), (16, x5)]) (looko ([2, 3].map fun n => (n, o n)))) K))))))
 (opsB C I R_o1 (St.mk (look [(2, (s 2)), (3, (s 3)), (11, (V.d (D.bool true))), (16, (V.tup []))]) (looko ([2, 3].map fun n => (n, o n)))) K)
 (opsB C I R_o1 (St.mk (look [(2, (s 2)), (3, (s 3)), (11, (V.tup [])), (16, (V.tup []))]) (looko ([2, 3].map fun n => (n, o n)))) K)) := rfl

theorem g_ref17_Same_c0_sh {C : Ctx} {I : Nat → Prop} {s : Nat → V} {o : Nat → Option Ob} {Q : Ex → St → Prop} : wpB C I (.cond (.t 55) (.seq (.region [4] (some []) none
     [⟨some 4, .mv (.c (.d (.bool false))), [], [], none, none⟩])
  (.ret))
 (.skip)) (St.mk s o) Q =
 (condK (s 55)
 (Q .ret (St.mk (look [(4, (V.d (.bool false)))]) (looko ([].map fun n => (n, o n)))))
 (Q .normal (St.mk s o))) := rfl

theorem g_ref17_Same_c1_sh {C : Ctx} {I : Nat → Prop} {s : Nat → V} {o : Nat → Option Ob} {Q : Ex → St → Prop} : wpB C I (.region [2, 3, 5] (some [2, 3]) none
   [⟨some 61, .mv (.t 5), [], [], none, none⟩,
    ⟨some 62, .bin .add (.t 61) (.c (.d (.int .i64 1))), [], [], none, none⟩,
    ⟨some 5, .mv (.t 62), [], [], none, none⟩]) (St.mk s o) Q =
 (demand (binV BinOp.add (s 5) (V.d (.int .i64 1))) (fun x1 =>
Q .normal (St.mk (look [(2, (s 2)), (3, (s 3)), (5, x1)]) (looko ([2, 3].map fun n => (n, o n)))))) := rfl

theorem g_ref17_Same_c2_sh {R_c1 : ACode} {C : Ctx} {I : Nat → Prop} {s : Nat → V} {o : Nat → Option Ob} {Q : Ex → St → Prop} : wpB C I (.seq (.block 1 [2, 3, 5] (some [2, 3]) (.seq (.region [2, 3, 5, 73] (some [2, 3]) (some ([0, 1, 2, 3, 4, 5, 6, 7, 8, 9, 10], .done))
      [⟨some 63, .faddr 21 (.t 2), [], [], none, none⟩,
       ⟨some 64, .load none (.t 63), [], [0], none, none⟩,
       ⟨some 65, .mv (.t 5), [], [], none, none⟩,
       ⟨some 66, .iaddr 4 (.t 64) (.t 65), [], [1, 2], none, none⟩,
       ⟨some 67, .load (some 4) (.t 66), [], [3], none, none⟩,
       ⟨some 68, .faddr 21 (.t 3), [], [], none, none⟩,
       ⟨some 69, .load none (.t 68), [], [5], none, none⟩,
       ⟨some 70, .mv (.t 5), [], [], none, none⟩,
       ⟨some 71, .iaddr 4 (.t 69) (.t 70), [], [6, 7], none, none⟩,
       ⟨some 72, .load (some 4) (.t 71), [], [8], none, none⟩,
       ⟨some 73, .eqs true [0, 0, 0, 0] (.t 67) (.t 72), [], [4, 9], none, none⟩])
   (.cond (.t 73) (.seq (.region [4] (some []) none
        [⟨some 4, .mv (.c (.d (.bool false))), [], [], none, none⟩])
     (.ret))
    (.skip))))
 (R_c1)) (St.mk s o) Q =
 ((s 63) = V.undef ∧ (demand (faddrV 21 (s 2)) (fun x1 => quietV o (x1 :: [(s 2)]) ∧
(s 64) = V.undef ∧ (demand (loadV o none x1) (fun x2 => quietV o (x2 :: [x1]) ∧
(s 65) = V.undef ∧ (quietV o ((s 5) :: [(s 5)]) ∧
(s 66) = V.undef ∧ (demand (iaddrV o 4 x2 (s 5)) (fun x4 => quietV o (x4 :: [x2, (s 5)]) ∧
(s 67) = V.undef ∧ (demand (loadV o (some 4) x4) (fun x5 => quietV o (x5 :: [x4]) ∧
(s 68) = V.undef ∧ (demand (faddrV 21 (s 3)) (fun x6 => quietV o (x6 :: [(s 3)]) ∧
(s 69) = V.undef ∧ (demand (loadV o none x6) (fun x7 => quietV o (x7 :: [x6]) ∧
(s 70) = V.undef ∧ (quietV o ((s 5) :: [(s 5)]) ∧
(s 71) = V.undef ∧ (demand (iaddrV o 4 x7 (s 5)) (fun x9 => quietV o (x9 :: [x7, (s 5)]) ∧
(s 72) = V.undef ∧ (demand (loadV o (some 4) x9) (fun x10 => quietV o (x10 :: [x9]) ∧
(s 73) = V.undef ∧ (demand (eqsV true [0, 0, 0, 0] x5 x10) (fun x11 => quietV o (x11 :: [x5, x10]) ∧
condK x11
 (Q .ret (St.mk (look [(4, (V.d (.bool false)))]) (looko ([].map fun n => (n, o n)))))
 (wpB C I R_c1 (St.mk (look [(2, (s 2)), (3, (s 3)), (5, (s 5))]) (looko ([2, 3].map fun n => (n, o n)))) Q)))))))))))))))))))))) := rfl

theorem g_ref17_Same_l0_sh {R_l0 : ACode} {R_c2 : ACode} {C : Ctx} {I : Nat → Prop} {s : Nat → V} {o : Nat → Option Ob} {Q : Ex → St → Prop} (hL : R_l0 = .loop [2, 3, 5] (some [2, 3]) (.seq (.seq (.region [2, 3, 5, 60] (some [2, 3]) none
      [⟨some 56, .mv (.t 5), [], [], none, none⟩,
       ⟨some 57, .faddr 21 (.t 2), [], [], none, none⟩,
       ⟨some 58, .load none (.t 57), [], [], none, none⟩,
       ⟨some 59, .len (.t 58), [], [], none, none⟩,
       ⟨some 60, .bin .lss (.t 56) (.t 59), [], [], none, none⟩])
   (.cond (.t 60) (.skip)
    (.exit 0)))
  (R_c2)))
 (h : demand (faddrV 21 (s 2)) (fun x1 =>
demand (loadV (looko ([2, 3].map fun n => (n, o n))) none x1) (fun x2 =>
demand (lenV (looko ([2, 3].map fun n => (n, o n))) x2) (fun x3 =>
demand (binV BinOp.lss (s 5) x3) (fun x4 =>
condK x4
 (wpB C I R_c2 (St.mk (look [(2, (s 2)), (3, (s 3)), (5, (s 5)), (60, x4)]) (looko ([2, 3].map fun n => (n, o n)))) (seqK (fun s => wpB C I R_l0 s Q) Q))
 (Q (.exit 0) (St.mk (look [(2, (s 2)), (3, (s 3)), (5, (s 5)), (60, x4)]) (looko ([2, 3].map fun n => (n, o n)))))))))) : wpB C I R_l0 (St.mk s o) Q := w_loopC hL h

theorem g_ref17_Same_c3_sh {C : Ctx} {I : Nat → Prop} {s : Nat → V} {o : Nat → Option Ob} {Q : Ex → St → Prop} : wpB C I (.seq (.region [4] (some []) none
    [⟨some 4, .mv (.c (.d (.bool true))), [], [], none, none⟩])
 (.ret)) (St.mk s o) Q =
 (Q .ret (St.mk (look [(4, (V.d (.bool true)))]) (looko ([].map fun n => (n, o n))))) := rfl

theorem g_ref17_Same_c4_sh {R_l0 : ACode} {R_c3 : ACode} {C : Ctx} {I : Nat → Prop} {s : Nat → V} {o : Nat → Option Ob} {Q : Ex → St → Prop} : wpB C I (.seq (.seq (.region [2, 3, 5] (some [2, 3]) none
     [⟨some 5, .mv (.c (.d (.int .i64 0))), [], [], none, none⟩])
  (.block 0 [] (some []) (R_l0)))
 (R_c3)) (St.mk s o) Q =
 (wpB C I R_l0 (St.mk (look [(2, (s 2)), (3, (s 3)), (5, (V.d (.int .i64 0)))]) (looko ([2, 3].map fun n => (n, o n)))) (blockK 0 [] (some []) (seqK (fun st => wpB C I R_c3 st Q) Q))) := rfl

theorem g_ref17_Same_code_sh {R_o0 : List AOper} {R_c0 : ACode} {R_c4 : ACode} {C : Ctx} {I : Nat → Prop} {s : Nat → V} {o : Nat → Option Ob} {Q : Ex → St → Prop} : wpB C I (.seq (.region [2, 3] (some [2, 3]) none
    [⟨some 2, .box 2 22 (.t 0), [], [], none, none⟩,
     ⟨some 3, .box 3 22 (.t 1), [], [], none, none⟩,
     ⟨some 4, .mv (.c (.d (.bool false))), [], [], none, none⟩])
 (.seq (.seq (.region [2, 3, 55] (some [2, 3]) none
      (⟨some 6, .faddr 0 (.t 2), [], [], none, none⟩ ::
       ⟨some 7, .load none (.t 6), [], [], none, none⟩ ::
       ⟨some 8, .faddr 0 (.t 3), [], [], none, none⟩ ::
       ⟨some 9, .load none (.t 8), [], [], none, none⟩ ::
       ⟨some 10, .bin .neq (.t 7) (.t 9), [], [], none, none⟩ ::
       ⟨some 11, .mv (.t 10), [], [], none, (some ([2, 3, 11], (some [2, 3])))⟩ ::
       R_o0))
   (R_c0))
  (R_c4))) (St.mk s o) Q =
 (lstK (cellsV (s 0)) (fun c1 => c1.length = 22 ∧ ¬ I 2 ∧ Fresh (St.mk s o) 2 (some 2) ∧ V.refsL 2 c1 = false ∧
lstK (cellsV (s 1)) (fun c2 => c2.length = 22 ∧ ¬ I 3 ∧ Fresh (St.mk (upd s 2 (V.ptr 2 0)) (upd o 2 (some (Ob.box c1)))) 3 (some 3) ∧ V.refsL 3 c2 = false ∧
demand (faddrV 0 (V.ptr 2 0)) (fun x3 =>
demand (loadV (looko ([2, 3].map fun n => (n, (upd (upd o 2 (some (Ob.box c1))) 3 (some (Ob.box c2))) n))) none x3) (fun x4 =>
demand (faddrV 0 (V.ptr 3 0)) (fun x5 =>
demand (loadV (looko ([2, 3].map fun n => (n, (upd (upd o 2 (some (Ob.box c1))) 3 (some (Ob.box c2))) n))) none x5) (fun x6 =>
demand (binV BinOp.neq x4 x6) (fun x7 =>
opsB C I R_o0 (St.mk (look [(2, (V.ptr 2 0)), (3, (V.ptr 3 0)), (11, x7)]) (looko ([2, 3].map fun n => (n, (upd (upd o 2 (some (Ob.box c1))) 3 (some (Ob.box c2))) n)))) (fun st => (seqK (fun st => wpB C I R_c0 st (seqK (fun st => wpB C I R_c4 st Q) Q)) (seqK (fun st => wpB C I R_c4 st Q) Q)) .normal (St.trim st [2, 3, 55] (some [2, 3]))))))))))) := rfl

theorem g_book_alive_c0_sh {C : Ctx} {I : Nat → Prop} {s : Nat → V} {o : Nat → Option Ob} {Q : Ex → St → Prop} : wpB C I (.region [1, 2, 5, 13, 14, 15] (some [2, 11]) none
   [⟨some 19, .mv (.t 5), [], [], none, none⟩,
    ⟨some 20, .faddr 4 (.t 7), [], [], none, none⟩,
    ⟨some 21, .load none (.t 20), [], [], none, none⟩,
    ⟨some 22, .mget false ((.int .i64 0)) (.t 19) (.t 21) false, [], [], none, none⟩,
    ⟨some 23, .bin .add (.t 22) (.c (.d (.int .i64 1))), [], [], none, none⟩,
    ⟨none, .mset false (.t 19) (.t 21) (.t 23), [], [], none, none⟩]) (St.mk s o) Q =
 (demand (faddrV 4 (s 7)) (fun x1 =>
demand (loadV o none x1) (fun x2 =>
mapK (s 5) (toD x2) o (fun n3 k4 kv5 => keyIs false k4 = true ∧ optK (kvGet k4 kv5) (fun r6 =>
demand (binV BinOp.add (if false = true then V.tup [V.d (r6.getD ((.int .i64 0))), V.d (D.bool r6.isSome)] else V.d (r6.getD ((.int .i64 0)))) (V.d (.int .i64 1))) (fun x7 =>
mapK (s 5) (toD x2) o (fun n8 k9 kv10 => keyIs false k9 = true ∧ optK (toD x7) (fun x11 => lstK (kvSet k9 x11 kv10) (fun kv12 =>
Q .normal (St.mk (look [(1, (s 1)), (2, (s 2)), (5, (s 5)), (13, (s 13)), (14, (s 14)), (15, (s 15))]) (looko ([2, 11].map fun n => (n, (upd o n8 (some (Ob.map kv12))) n))))))))))))) := rfl

theorem g_book_alive_c1_sh {C : Ctx} {I : Nat → Prop} {s : Nat → V} {o : Nat → Option Ob} {Q : Ex → St → Prop} : wpB C I (.region [1, 2, 5, 13, 14, 15] (some [2, 11]) none
   [⟨some 24, .bin .add (.t 15) (.c (.d (.int .i64 1))), [], [], none, none⟩,
    ⟨some 15, .mv (.t 24), [], [], none, none⟩]) (St.mk s o) Q =
 (demand (binV BinOp.add (s 15) (V.d (.int .i64 1))) (fun x1 =>
Q .normal (St.mk (look [(1, (s 1)), (2, (s 2)), (5, (s 5)), (13, (s 13)), (14, (s 14)), (15, x1)]) (looko ([2, 11].map fun n => (n, o n)))))) := rfl

theorem g_book_alive_l0_sh {R_l0 : ACode} {R_c0 : ACode} {R_c1 : ACode} {C : Ctx} {I : Nat → Prop} {s : Nat → V} {o : Nat → Option Ob} {Q : Ex → St → Prop} (hL : R_l0 = .loop [1, 2, 5, 13, 14, 15] (some [2, 11]) (.seq (.region [1, 2, 5, 13, 14, 15, 16] (some [2, 11]) none
     [⟨some 16, .bin .lss (.t 15) (.t 14), [], [], none, none⟩])
  (.seq (.cond (.t 16) (.skip)
    (.exit 0))
   (.seq (.block 1 [1, 2, 5, 13, 14, 15] (some [2, 11]) (.seq (.region [1, 2, 5, 7, 13, 14, 15] (some [2, 7, 11]) none
         [⟨some 17, .iaddr 22 (.t 13) (.t 15), [], [], none, none⟩,
          ⟨some 18, .load (some 22) (.t 17), [], [], none, none⟩,
          ⟨some 7, .alloc 7 [.d (.int .i64 0), .d (.int .i64 0), .d (.int .i64 0), .d (.int .i64 0), .d (.int .i64 0), .cap0, .d (.int .i64 0), .d (.int .i64 0), .d (.int .i64 0), .d (.int .i64 0), .d (.int .i64 0), .d (.int .i64 0), .d (.int .i64 0), .d (.int .i64 0), .d (.int .i64 0), .d (.int .i64 0), .d (.int .i64 0), .d (.int .i64 0), .cap0, .cap0, .cap0, .cap0], [], [], none, none⟩,
          ⟨none, .store 22 (.t 7) (.t 18), [], [], none, none⟩])
      (R_c0)))
    (R_c1)))))
 (h : demand (binV BinOp.lss (s 15) (s 14)) (fun x1 =>
condK x1
 (demand (iaddrV (looko ([2, 11].map fun n => (n, o n))) 22 (s 13) (s 15)) (fun x2 =>
demand (loadV (looko ([2, 11].map fun n => (n, o n))) (some 22) x2) (fun x3 =>
(¬ I 7 ∧ Fresh (St.mk (upd (upd (look [(1, (s 1)), (2, (s 2)), (5, (s 5)), (13, (s 13)), (14, (s 14)), (15, (s 15)), (16, x1)]) 17 x2) 18 x3) (looko ([2, 11].map fun n => (n, o n)))) 7 (some 7) ∧ V.refsL 7 [V.d (.int .i64 0), V.d (.int .i64 0), V.d (.int .i64 0), V.d (.int .i64 0), V.d (.int .i64 0), V.cap0, V.d (.int .i64 0), V.d (.int .i64 0), V.d (.int .i64 0), V.d (.int .i64 0), V.d (.int .i64 0), V.d (.int .i64 0), V.d (.int .i64 0), V.d (.int .i64 0), V.d (.int .i64 0), V.d (.int .i64 0), V.d (.int .i64 0), V.d (.int .i64 0), V.cap0, V.cap0, V.cap0, V.cap0] = false ∧
storeK (V.ptr 7 0) (cellsV x3) 22 (upd (looko ([2, 11].map fun n => (n, o n))) 7 (some (Ob.box [V.d (.int .i64 0), V.d (.int .i64 0), V.d (.int .i64 0), V.d (.int .i64 0), V.d (.int .i64 0), V.cap0, V.d (.int .i64 0), V.d (.int .i64 0), V.d (.int .i64 0), V.d (.int .i64 0), V.d (.int .i64 0), V.d (.int .i64 0), V.d (.int .i64 0), V.d (.int .i64 0), V.d (.int .i64 0), V.d (.int .i64 0), V.d (.int .i64 0), V.d (.int .i64 0), V.cap0, V.cap0, V.cap0, V.cap0]))) (fun m4 ob5 =>
wpB C I R_c0 (St.mk (look [(1, (s 1)), (2, (s 2)), (5, (s 5)), (7, (V.ptr 7 0)), (13, (s 13)), (14, (s 14)), (15, (s 15))]) (looko ([2, 7, 11].map fun n => (n, (upd (upd (looko ([2, 11].map fun n => (n, o n))) 7 (some (Ob.box [V.d (.int .i64 0), V.d (.int .i64 0), V.d (.int .i64 0), V.d (.int .i64 0), V.d (.int .i64 0), V.cap0, V.d (.int .i64 0), V.d (.int .i64 0), V.d (.int .i64 0), V.d (.int .i64 0), V.d (.int .i64 0), V.d (.int .i64 0), V.d (.int .i64 0), V.d (.int .i64 0), V.d (.int .i64 0), V.d (.int .i64 0), V.d (.int .i64 0), V.d (.int .i64 0), V.cap0, V.cap0, V.cap0, V.cap0]))) m4 (some ob5)) n)))) (blockK 1 [1, 2, 5, 13, 14, 15] (some [2, 11]) (seqK (fun st => wpB C I R_c1 st (seqK (fun s => wpB C I R_l0 s Q) Q)) (seqK (fun s => wpB C I R_l0 s Q) Q))))))))
 (Q (.exit 0) (St.mk (look [(1, (s 1)), (2, (s 2)), (5, (s 5)), (13, (s 13)), (14, (s 14)), (15, (s 15)), (16, x1)]) (looko ([2, 11].map fun n => (n, o n))))))) : wpB C I R_l0 (St.mk s o) Q := w_loopC hL h

theorem g_book_alive_c2_sh {R_l0 : ACode} {C : Ctx} {I : Nat → Prop} {s : Nat → V} {o : Nat → Option Ob} {Q : Ex → St → Prop} : wpB C I (.block 0 [1, 2, 5] (some [2, 11]) (R_l0)) (St.mk s o) Q =
 (wpB C I R_l0 (St.mk s o) (blockK 0 [1, 2, 5] (some [2, 11]) Q)) := rfl

theorem g_book_alive_o3_sh {C : Ctx} {I : Nat → Prop} {s : Nat → V} {o : Nat → Option Ob} {K : St → Prop} : opsB C I [⟨some 48, .pick (.t 42) (.t 47) (.c (.d (.bool false))), [], [], none, none⟩] (St.mk s o) K =
 (demand (pickV (s 42) (s 47) (V.d (.bool false))) (fun x1 =>
K (St.mk (upd s 48 x1) o))) := rfl

theorem g_book_alive_o2_sh {R_o3 : List AOper} {C : Ctx} {I : Nat → Prop} {s : Nat → V} {o : Nat → Option Ob} {K : St → Prop} : opsB C I (⟨some 43, .mv (.t 5), [], [], (some (9, 42, true)), none⟩ ::
     ⟨some 44, .mv (.t 9), [], [], (some (9, 42, true)), none⟩ ::
     ⟨some 45, .bin .add (.t 44) (.c (.d (.int .i64 1))), [], [], (some (9, 42, true)), none⟩ ::
     ⟨some 46, .mget false ((.int .i64 0)) (.t 43) (.t 45) false, [], [], (some (9, 42, true)), none⟩ ::
     ⟨some 47, .bin .eql (.t 46) (.c (.d (.int .i64 0))), [], [], (some (9, 42, true)), (some ([1, 5, 8, 10, 26, 27, 28, 42, 47], (some [10, 11, 52])))⟩ ::
     R_o3) (St.mk s o) K =
 (guardK (s 42) true
 (demand (binV BinOp.add (s 9) (V.d (.int .i64 1))) (fun x1 =>
mapK (s 5) (toD x1) o (fun n2 k3 kv4 => keyIs false k3 = true ∧ optK (kvGet k3 kv4) (fun r5 =>
demand (binV BinOp.eql (if false = true then V.tup [V.d (r5.getD ((.int .i64 0))), V.d (D.bool r5.isSome)] else V.d (r5.getD ((.int .i64 0)))) (V.d (.int .i64 0))) (fun x6 =>
opsB C I R_o3 (St.mk (look [(1, (s 1)), (5, (s 5)), (8, (s 8)), (10, (s 10)), (26, (s 26)), (27, (s 27)), (28, (s 28)), (42, (V.d (D.bool true))), (47, x6)]) (looko ([10, 11, 52].map fun n => (n, o n)))) K)))))
 (opsB C I R_o3 (St.mk (look [(1, (s 1)), (5, (s 5)), (8, (s 8)), (10, (s 10)), (26, (s 26)), (27, (s 27)), (28, (s 28)), (42, (V.d (D.bool false))), (47, (V.tup []))]) (looko ([10, 11, 52].map fun n => (n, o n)))) K)
 (opsB C I R_o3 (St.mk (look [(1, (s 1)), (5, (s 5)), (8, (s 8)), (10, (s 10)), (26, (s 26)), (27, (s 27)), (28, (s 28)), (42, (V.tup [])), (47, (V.tup []))]) (looko ([10, 11, 52].map fun n => (n, o n)))) K)) := rfl

theorem g_book_alive_o1_sh {R_o2 : List AOper} {C : Ctx} {I : Nat → Prop} {s : Nat → V} {o : Nat → Option Ob} {K : St → Prop} : opsB C I (⟨some 41, .pick (.t 37) (.t 40) (.c (.d (.bool false))), [], [], none, none⟩ ::
     ⟨some 42, .mv (.t 41), [], [], none, (some ([1, 5, 8, 9, 10, 26, 27, 28, 42], (some [10, 11, 52])))⟩ ::
     R_o2) (St.mk s o) K =
 (demand (pickV (s 37) (s 40) (V.d (.bool false))) (fun x1 =>
opsB C I R_o2 (St.mk (look [(1, (s 1)), (5, (s 5)), (8, (s 8)), (9, (s 9)), (10, (s 10)), (26, (s 26)), (27, (s 27)), (28, (s 28)), (42, x1)]) (looko ([10, 11, 52].map fun n => (n, o n)))) K)) := rfl

theorem g_book_alive_o0_sh {R_o1 : List AOper} {C : Ctx} {I : Nat → Prop} {s : Nat → V} {o : Nat → Option Ob} {K : St → Prop} : opsB C I (⟨some 38, .faddr 4 (.t 10), [], [], (some (4, 37, true)), none⟩ ::
     ⟨some 39, .load none (.t 38), [], [], (some (4, 37, true)), none⟩ ::
     ⟨some 40, .bin .eql (.t 39) (.c (.d (.int .i64 0))), [], [], (some (4, 37, true)), (some ([1, 5, 8, 9, 10, 26, 27, 28, 37, 40], (some [10, 11, 52])))⟩ ::
     R_o1) (St.mk s o) K =
 (guardK (s 37) true
 (demand (faddrV 4 (s 10)) (fun x1 =>
demand (loadV o none x1) (fun x2 =>
demand (binV BinOp.eql x2 (V.d (.int .i64 0))) (fun x3 =>
opsB C I R_o1 (St.mk (look [(1, (s 1)), (5, (s 5)), (8, (s 8)), (9, (s 9)), (10, (s 10)), (26, (s 26)), (27, (s 27)), (28, (s 28)), (37, (V.d (D.bool true))), (40, x3)]) (looko ([10, 11, 52].map fun n => (n, o n)))) K))))
 (opsB C I R_o1 (St.mk (look [(1, (s 1)), (5, (s 5)), (8, (s 8)), (9, (s 9)), (10, (s 10)), (26, (s 26)), (27, (s 27)), (28, (s 28)), (37, (V.d (D.bool false))), (40, (V.tup []))]) (looko ([10, 11, 52].map fun n => (n, o n)))) K)
 (opsB C I R_o1 (St.mk (look [(1, (s 1)), (5, (s 5)), (8, (s 8)), (9, (s 9)), (10, (s 10)), (26, (s 26)), (27, (s 27)), (28, (s 28)), (37, (V.tup [])), (40, (V.tup []))]) (looko ([10, 11, 52].map fun n => (n, o n)))) K)) := rfl

theorem g_book_alive_c3_sh {C : Ctx} {I : Nat → Prop} {s : Nat → V} {o : Nat → Option Ob} {Q : Ex → St → Prop} : wpB C I (.cond (.t 48) (.region [1, 5, 8, 26, 27, 28] (some [11, 52]) none
    [⟨some 49, .mv (.t 8), [], [], none, none⟩,
     ⟨some 50, .load (some 22) (.t 10), [], [], none, none⟩,
     ⟨some 51, .bsl none 22 [] 1 [(0, (.t 50))], [], [], none, none⟩,
     ⟨some 52, .app (some 52) 22 256 (.t 49) (.t 51), [], [], none, none⟩,
     ⟨some 8, .mv (.t 52), [], [], none, none⟩])
 (.skip)) (St.mk s o) Q =
 (condK (s 48)
 (demand (loadV o (some 22) (s 10)) (fun x1 =>
lstK (partsN 22 [x1]) (fun es2 =>
lstK (readD o (V.d (D.sl es2))) (fun ys3 => (∀ e ∈ ys3, e.length = 22) ∧ appK (s 8)
 (ys3.length * 256 ≤ 140737488355328 ∧ ys3.length ≤ 140737488355328 ∧ ¬ I 52 ∧ Fresh (St.mk (upd (upd (upd s 49 (s 8)) 50 x1) 51 (V.d (D.sl es2))) o) 52 (some 52) ∧
Q .normal (St.mk (look [(1, (s 1)), (5, (s 5)), (8, (V.own 52)), (26, (s 26)), (27, (s 27)), (28, (s 28))]) (looko ([11, 52].map fun n => (n, (upd o 52 (some (Ob.row 22 ys3))) n)))))
 (fun m4 => ¬ I m4 ∧ rowK (o m4) (fun z5 es6 => z5 = 22 ∧ (es6.length + ys3.length) * 256 ≤ 140737488355328 ∧ es6.length + ys3.length ≤ 140737488355328 ∧
Q .normal (St.mk (look [(1, ((fun t => scrubV m4 (s t)) 1)), (5, ((fun t => scrubV m4 (s t)) 5)), (8, (V.own m4)), (26, ((fun t => scrubV m4 (s t)) 26)), (27, ((fun t => scrubV m4 (s t)) 27)), (28, ((fun t => scrubV m4 (s t)) 28))]) (looko ([11, 52].map fun n => (n, (upd (fun n => (o n).map (Ob.scrub m4)) m4 (some (Ob.row 22 (es6 ++ ys3)))) n))))))))))
 (Q .normal (St.mk s o))) := rfl

theorem g_book_alive_c4_sh {R_o0 : List AOper} {R_c3 : ACode} {C : Ctx} {I : Nat → Prop} {s : Nat → V} {o : Nat → Option Ob} {Q : Ex → St → Prop} : wpB C I (.seq (.region [1, 5, 8, 10, 26, 27, 28, 48] (some [10, 11, 52]) none
    (⟨some 33, .faddr 2 (.t 10), [], [], none, none⟩ ::
     ⟨some 34, .load none (.t 33), [], [], none, none⟩ ::
     ⟨some 35, .mv (.t 1), [], [], none, none⟩ ::
     ⟨some 36, .bin .eql (.t 34) (.t 35), [], [], none, none⟩ ::
     ⟨some 37, .mv (.t 36), [], [], none, (some ([1, 5, 8, 9, 10, 26, 27, 28, 37], (some [10, 11, 52])))⟩ ::
     R_o0))
 (R_c3)) (St.mk s o) Q =
 (demand (faddrV 2 (s 10)) (fun x1 =>
demand (loadV o none x1) (fun x2 =>
demand (binV BinOp.eql x2 (s 1)) (fun x3 =>
opsB C I R_o0 (St.mk (look [(1, (s 1)), (5, (s 5)), (8, (s 8)), (9, (s 9)), (10, (s 10)), (26, (s 26)), (27, (s 27)), (28, (s 28)), (37, x3)]) (looko ([10, 11, 52].map fun n => (n, o n)))) (fun st => (seqK (fun st => wpB C I R_c3 st Q) Q) .normal (St.trim st [1, 5, 8, 10, 26, 27, 28, 48] (some [10, 11, 52]))))))) := rfl

theorem g_book_alive_c5_sh {C : Ctx} {I : Nat → Prop} {s : Nat → V} {o : Nat → Option Ob} {Q : Ex → St → Prop} : wpB C I (.region [1, 5, 8, 26, 27, 28] (some [11, 52]) none
   [⟨some 53, .bin .add (.t 28) (.c (.d (.int .i64 1))), [], [], none, none⟩,
    ⟨some 28, .mv (.t 53), [], [], none, none⟩]) (St.mk s o) Q =
 (demand (binV BinOp.add (s 28) (V.d (.int .i64 1))) (fun x1 =>
Q .normal (St.mk (look [(1, (s 1)), (5, (s 5)), (8, (s 8)), (26, (s 26)), (27, (s 27)), (28, x1)]) (looko ([11, 52].map fun n => (n, o n)))))) := rfl

theorem g_book_alive_l1_sh {R_l1 : ACode} {R_c4 : ACode} {R_c5 : ACode} {C : Ctx} {I : Nat → Prop} {s : Nat → V} {o : Nat → Option Ob} {Q : Ex → St → Prop} (hL : R_l1 = .loop [1, 5, 8, 26, 27, 28] (some [11, 52]) (.seq (.region [1, 5, 8, 26, 27, 28, 29] (some [11, 52]) none
     [⟨some 29, .bin .lss (.t 28) (.t 27), [], [], none, none⟩])
  (.seq (.cond (.t 29) (.skip)
    (.exit 2))
   (.seq (.block 3 [1, 5, 8, 26, 27, 28] (some [11, 52]) (.seq (.region [1, 5, 8, 9, 10, 26, 27, 28] (some [10, 11, 52]) none
         [⟨some 30, .mv (.t 28), [], [], none, none⟩,
          ⟨some 31, .iaddr 22 (.t 26) (.t 28), [], [], none, none⟩,
          ⟨some 32, .load (some 22) (.t 31), [], [], none, none⟩,
          ⟨some 10, .alloc 10 [.d (.int .i64 0), .d (.int .i64 0), .d (.int .i64 0), .d (.int .i64 0), .d (.int .i64 0), .cap0, .d (.int .i64 0), .d (.int .i64 0), .d (.int .i64 0), .d (.int .i64 0), .d (.int .i64 0), .d (.int .i64 0), .d (.int .i64 0), .d (.int .i64 0), .d (.int .i64 0), .d (.int .i64 0), .d (.int .i64 0), .d (.int .i64 0), .cap0, .cap0, .cap0, .cap0], [], [], none, none⟩,
          ⟨some 9, .mv (.t 30), [], [], none, none⟩,
          ⟨none, .store 22 (.t 10) (.t 32), [], [], none, none⟩])
      (R_c4)))
    (R_c5)))))
 (h : demand (binV BinOp.lss (s 28) (s 27)) (fun x1 =>
condK x1
 (demand (iaddrV (looko ([11, 52].map fun n => (n, o n))) 22 (s 26) (s 28)) (fun x2 =>
demand (loadV (looko ([11, 52].map fun n => (n, o n))) (some 22) x2) (fun x3 =>
(¬ I 10 ∧ Fresh (St.mk (upd (upd (upd (look [(1, (s 1)), (5, (s 5)), (8, (s 8)), (26, (s 26)), (27, (s 27)), (28, (s 28)), (29, x1)]) 30 (s 28)) 31 x2) 32 x3) (looko ([11, 52].map fun n => (n, o n)))) 10 (some 10) ∧ V.refsL 10 [V.d (.int .i64 0), V.d (.int .i64 0), V.d (.int .i64 0), V.d (.int .i64 0), V.d (.int .i64 0), V.cap0, V.d (.int .i64 0), V.d (.int .i64 0), V.d (.int .i64 0), V.d (.int .i64 0), V.d (.int .i64 0), V.d (.int .i64 0), V.d (.int .i64 0), V.d (.int .i64 0), V.d (.int .i64 0), V.d (.int .i64 0), V.d (.int .i64 0), V.d (.int .i64 0), V.cap0, V.cap0, V.cap0, V.cap0] = false ∧
storeK (V.ptr 10 0) (cellsV x3) 22 (upd (looko ([11, 52].map fun n => (n, o n))) 10 (some (Ob.box [V.d (.int .i64 0), V.d (.int .i64 0), V.d (.int .i64 0), V.d (.int .i64 0), V.d (.int .i64 0), V.cap0, V.d (.int .i64 0), V.d (.int .i64 0), V.d (.int .i64 0), V.d (.int .i64 0), V.d (.int .i64 0), V.d (.int .i64 0), V.d (.int .i64 0), V.d (.int .i64 0), V.d (.int .i64 0), V.d (.int .i64 0), V.d (.int .i64 0), V.d (.int .i64 0), V.cap0, V.cap0, V.cap0, V.cap0]))) (fun m4 ob5 =>
wpB C I R_c4 (St.mk (look [(1, (s 1)), (5, (s 5)), (8, (s 8)), (9, (s 28)), (10, (V.ptr 10 0)), (26, (s 26)), (27, (s 27)), (28, (s 28))]) (looko ([10, 11, 52].map fun n => (n, (upd (upd (looko ([11, 52].map fun n => (n, o n))) 10 (some (Ob.box [V.d (.int .i64 0), V.d (.int .i64 0), V.d (.int .i64 0), V.d (.int .i64 0), V.d (.int .i64 0), V.cap0, V.d (.int .i64 0), V.d (.int .i64 0), V.d (.int .i64 0), V.d (.int .i64 0), V.d (.int .i64 0), V.d (.int .i64 0), V.d (.int .i64 0), V.d (.int .i64 0), V.d (.int .i64 0), V.d (.int .i64 0), V.d (.int .i64 0), V.d (.int .i64 0), V.cap0, V.cap0, V.cap0, V.cap0]))) m4 (some ob5)) n)))) (blockK 3 [1, 5, 8, 26, 27, 28] (some [11, 52]) (seqK (fun st => wpB C I R_c5 st (seqK (fun s => wpB C I R_l1 s Q) Q)) (seqK (fun s => wpB C I R_l1 s Q) Q))))))))
 (Q (.exit 2) (St.mk (look [(1, (s 1)), (5, (s 5)), (8, (s 8)), (26, (s 26)), (27, (s 27)), (28, (s 28)), (29, x1)]) (looko ([11, 52].map fun n => (n, o n))))))) : wpB C I R_l1 (St.mk s o) Q := w_loopC hL h

theorem g_book_alive_c6_sh {R_l1 : ACode} {C : Ctx} {I : Nat → Prop} {s : Nat → V} {o : Nat → Option Ob} {Q : Ex → St → Prop} : wpB C I (.block 2 [8] (some [52]) (R_l1)) (St.mk s o) Q =
 (wpB C I R_l1 (St.mk s o) (blockK 2 [8] (some [52]) Q)) := rfl

theorem g_book_alive_c7_sh {C : Ctx} {I : Nat → Prop} {s : Nat → V} {o : Nat → Option Ob} {Q : Ex → St → Prop} : wpB C I (.seq (.region [4] (some [52]) none
    [⟨some 54, .mv (.t 8), [], [], none, none⟩,
     ⟨some 4, .mv (.t 54), [], [], none, none⟩])
 (.ret)) (St.mk s o) Q =
 (Q .ret (St.mk (look [(4, (s 8))]) (looko ([52].map fun n => (n, o n))))) := rfl

theorem g_book_alive_c8_sh {R_c6 : ACode} {R_c7 : ACode} {C : Ctx} {I : Nat → Prop} {s : Nat → V} {o : Nat → Option Ob} {Q : Ex → St → Prop} : wpB C I (.seq (.region [1, 2, 5, 8] (some [2, 11, 52]) none
    [⟨some 8, .mv (.c (.cap0)), [], [], none, none⟩])
 (.seq (.seq (.region [1, 5, 8, 26, 27, 28] (some [11, 52]) none
      [⟨some 25, .faddr 0 (.t 2), [], [], none, none⟩,
       ⟨some 26, .load none (.t 25), [], [], none, none⟩,
       ⟨some 27, .len (.t 26), [], [], none, none⟩,
       ⟨some 28, .mv (.c (.d (.int .i64 0))), [], [], none, none⟩])
   (R_c6))
  (R_c7))) (St.mk s o) Q =
 (demand (faddrV 0 (s 2)) (fun x1 =>
demand (loadV (looko ([2, 11, 52].map fun n => (n, o n))) none x1) (fun x2 =>
demand (lenV (looko ([2, 11, 52].map fun n => (n, o n))) x2) (fun x3 =>
wpB C I R_c6 (St.mk (look [(1, (s 1)), (5, (s 5)), (8, (V.cap0)), (26, x2), (27, x3), (28, (V.d (.int .i64 0)))]) (looko ([11, 52].map fun n => (n, o n)))) (seqK (fun st => wpB C I R_c7 st Q) Q))))) := rfl

theorem g_book_alive_code_sh {R_c2 : ACode} {R_c8 : ACode} {C : Ctx} {I : Nat → Prop} {s : Nat → V} {o : Nat → Option Ob} {Q : Ex → St → Prop} : wpB C I (.seq (.region [1, 2] (some [2]) none
    [⟨some 2, .box 2 1 (.t 0), [], [], none, none⟩,
     ⟨some 4, .mv (.c (.cap0)), [], [], none, none⟩])
 (.seq (.region [1, 2, 5] (some [2, 11]) none
     [⟨some 11, .mkmap 11, [], [], none, none⟩,
      ⟨some 5, .mv (.t 11), [], [], none, none⟩])
  (.seq (.seq (.region [1, 2, 5, 13, 14, 15] (some [2, 11]) none
       [⟨some 12, .faddr 0 (.t 2), [], [], none, none⟩,
        ⟨some 13, .load none (.t 12), [], [], none, none⟩,
        ⟨some 14, .len (.t 13), [], [], none, none⟩,
        ⟨some 15, .mv (.c (.d (.int .i64 0))), [], [], none, none⟩])
    (R_c2))
   (R_c8)))) (St.mk s o) Q =
 (lstK (cellsV (s 0)) (fun c1 => c1.length = 1 ∧ ¬ I 2 ∧ Fresh (St.mk s o) 2 (some 2) ∧ V.refsL 2 c1 = false ∧
(¬ I 11 ∧ Fresh (St.mk (look [(1, (s 1)), (2, (V.ptr 2 0))]) (looko ([2].map fun n => (n, (upd o 2 (some (Ob.box c1))) n)))) 11 (some 11) ∧
demand (faddrV 0 (V.ptr 2 0)) (fun x2 =>
demand (loadV (looko ([2, 11].map fun n => (n, (upd (looko ([2].map fun n => (n, (upd o 2 (some (Ob.box c1))) n))) 11 (some (Ob.map []))) n))) none x2) (fun x3 =>
demand (lenV (looko ([2, 11].map fun n => (n, (upd (looko ([2].map fun n => (n, (upd o 2 (some (Ob.box c1))) n))) 11 (some (Ob.map []))) n))) x3) (fun x4 =>
wpB C I R_c2 (St.mk (look [(1, (s 1)), (2, (V.ptr 2 0)), (5, (V.mref 11)), (13, x3), (14, x4), (15, (V.d (.int .i64 0)))]) (looko ([2, 11].map fun n => (n, (upd (looko ([2].map fun n => (n, (upd o 2 (some (Ob.box c1))) n))) 11 (some (Ob.map []))) n)))) (seqK (fun st => wpB C I R_c8 st Q) Q))))))) := rfl

theorem g_book_add_c0_sh {C : Ctx} {I : Nat → Prop} {s : Nat → V} {o : Nat → Option Ob} {Q : Ex → St → Prop} : wpB C I (.region [0, 1, 6, 7] none none
   [⟨some 24, .bin .add (.t 7) (.c (.d (.int .i64 1))), [], [], none, none⟩,
    ⟨some 7, .mv (.t 24), [], [], none, none⟩]) (St.mk s o) Q =
 (demand (binV BinOp.add (s 7) (V.d (.int .i64 1))) (fun x1 =>
Q .normal (St.mk (look [(0, (s 0)), (1, (s 1)), (6, (s 6)), (7, x1)]) o))) := rfl

theorem g_book_add_l0_sh {R_l0 : ACode} {R_c0 : ACode} {C : Ctx} {I : Nat → Prop} {s : Nat → V} {o : Nat → Option Ob} {Q : Ex → St → Prop} (hL : R_l0 = .loop [0, 1, 6, 7] none (.seq (.region [0, 1, 6, 7, 8] none none
     [⟨some 8, .bin .lss (.t 7) (.t 6), [], [], none, none⟩])
  (.seq (.cond (.t 8) (.skip)
    (.exit 0))
   (.seq (.block 1 [0, 1, 6, 7] none (.seq (.region [0, 1, 4, 6, 7] none none
         [⟨some 9, .mv (.t 7), [], [], none, none⟩,
          ⟨some 4, .mv (.t 9), [], [], none, none⟩])
      (.seq (.region [0, 1, 4, 6, 7, 13] none none
          [⟨some 10, .mv (.t 4), [], [], none, none⟩,
           ⟨some 11, .mv (.t 1), [], [], none, none⟩,
           ⟨some 12, .len (.t 11), [], [], none, none⟩,
           ⟨some 13, .bin .lss (.t 10) (.t 12), [], [], none, none⟩])
       (.cond (.t 13) (.region [0, 1, 6, 7] none (some ([1, 4, 5, 6, 7], .one 0 (.one 2 (.one 3 (.one 8 (.one 9 (.one 10 (.done))))))))
           [⟨some 14, .mv (.t 0), [], [], none, none⟩,
            ⟨some 15, .mv (.t 4), [], [], none, none⟩,
            ⟨some 16, .iaddr 1 (.t 14) (.t 15), [], [0, 1], none, none⟩,
            ⟨some 17, .load none (.t 16), [], [2], none, none⟩,
            ⟨some 18, .mv (.t 1), [], [], none, none⟩,
            ⟨some 19, .mv (.t 4), [], [], none, none⟩,
            ⟨some 20, .iaddr 1 (.t 18) (.t 19), [], [4, 5], none, none⟩,
            ⟨some 21, .load none (.t 20), [], [6], none, none⟩,
            ⟨some 22, .bin .add (.t 17) (.t 21), [], [3, 7], none, none⟩,
            ⟨some 23, .iaddr 1 (.t 14) (.t 15), [], [0, 1, 0, 1, 2, 3, 4, 5, 6, 7, 8], none, none⟩,
            ⟨none, .store 1 (.t 23) (.t 22), [], [9, 8, 0, 1, 2, 3, 4, 5, 6, 7, 8], none, none⟩])
        (.skip)))))
    (R_c0)))))
 (h : demand (binV BinOp.lss (s 7) (s 6)) (fun x1 =>
condK x1
 (demand (lenV o (s 1)) (fun x2 =>
demand (binV BinOp.lss (s 7) x2) (fun x3 =>
condK x3
 (V.undef = V.undef ∧ (quietV o ((s 7) :: [(s 7)]) ∧
V.undef = V.undef ∧ (quietV o ((s 1) :: [(s 1)]) ∧
V.undef = V.undef ∧ (quietV o ((s 7) :: [(s 7)]) ∧
V.undef = V.undef ∧ (demand (iaddrV o 1 (s 1) (s 7)) (fun x7 => quietV o (x7 :: [(s 1), (s 7)]) ∧
V.undef = V.undef ∧ (demand (loadV o none x7) (fun x8 => quietV o (x8 :: [x7]) ∧
(([] : List Nat) = [] ∧ ((([] : List Nat) = [] ∧ (demand (iaddrV o 1 (s 0) (s 7)) (fun x9 =>
(([] : List Nat) = [] ∧ (demand (loadV o none x9) (fun x10 =>
(([] : List Nat) = [] ∧ (demand (binV BinOp.add x10 x8) (fun x11 =>
(([] : List Nat) = [] ∧ (demand (iaddrV o 1 (s 0) (s 7)) (fun x12 =>
(([] : List Nat) = [] ∧ (storeK x12 (cellsV x11) 1 o (fun m13 ob14 =>
wpB C I R_c0 (St.mk (look [(0, (s 0)), (1, (s 1)), (6, (s 6)), (7, (s 7))]) (upd o m13 (some ob14))) (seqK (fun s => wpB C I R_l0 s Q) Q))))))))))))))))))))))))))
 (wpB C I R_c0 (St.mk (look [(0, (s 0)), (1, (s 1)), (6, (s 6)), (7, (s 7))]) o) (seqK (fun s => wpB C I R_l0 s Q) Q)))))
 (Q (.exit 0) (St.mk (look [(0, (s 0)), (1, (s 1)), (6, (s 6)), (7, (s 7)), (8, x1)]) o)))) : wpB C I R_l0 (St.mk s o) Q := w_loopC hL h

theorem g_book_add_code_sh {R_l0 : ACode} {C : Ctx} {I : Nat → Prop} {s : Nat → V} {o : Nat → Option Ob} {Q : Ex → St → Prop} : wpB C I (.seq (.region [0, 1, 6, 7] none none
    [⟨some 5, .mv (.t 0), [], [], none, none⟩,
     ⟨some 6, .len (.t 5), [], [], none, none⟩,
     ⟨some 7, .mv (.c (.d (.int .i64 0))), [], [], none, none⟩])
 (.block 0 [] none (R_l0))) (St.mk s o) Q =
 (demand (lenV o (s 0)) (fun x1 =>
wpB C I R_l0 (St.mk (look [(0, (s 0)), (1, (s 1)), (6, x1), (7, (V.d (.int .i64 0)))]) o) (blockK 0 [] none Q))) := rfl

theorem g_slices_IndexFunc_Entry_c0_sh {C : Ctx} {I : Nat → Prop} {s : Nat → V} {o : Nat → Option Ob} {Q : Ex → St → Prop} : wpB C I (.region [0, 1, 7, 8] none none
   [⟨some 18, .bin .add (.t 8) (.c (.d (.int .i64 1))), [], [], none, none⟩,
    ⟨some 8, .mv (.t 18), [], [], none, none⟩]) (St.mk s o) Q =
 (demand (binV BinOp.add (s 8) (V.d (.int .i64 1))) (fun x1 =>
Q .normal (St.mk (look [(0, (s 0)), (1, (s 1)), (7, (s 7)), (8, x1)]) o))) := rfl


end Pay
