/- What the code of the functions comes to, without slots: an equation for each part; no condition. -/
import Derived.Test.YtbhjjheefdilbaaPayU
import Derived.Test.YtbhjjheefdilbaaPayBkCode
set_option maxRecDepth 20000
set_option maxHeartbeats 400000
set_option linter.unusedVariables false
namespace Pay
open Go
theorem g_law17_BookBack_o3_sh {C : Ctx} {I : Nat → Prop} {s : Nat → V} {o : Nat → Option Ob} {K : St → Prop} : opsB C I [⟨some 52, .pick (.t 48) (.c (.d (.bool true))) (.t 51), [], [], none, none⟩] (St.mk s o) K =
 (demand (pickV (s 48) (V.d (.bool true)) (s 51)) (fun x1 =>
K (St.mk (upd s 52 x1) o))) := rfl

theorem g_law17_BookBack_o2_sh {R_o3 : List AOper} {C : Ctx} {I : Nat → Prop} {s : Nat → V} {o : Nat → Option Ob} {K : St → Prop} : opsB C I (⟨some 49, .mv (.t 4), [], [], (some (6, 48, false)), none⟩ ::
     ⟨some 50, .len (.t 49), [], [], (some (6, 48, false)), none⟩ ::
     ⟨some 51, .bin .gtr (.t 50) (.c (.d (.int .i64 40))), [], [], (some (6, 48, false)), (some ([2, 3, 4, 5, 6, 48, 51], (some [5, 6])))⟩ ::
     R_o3) (St.mk s o) K =
 (guardK (s 48) false
 (demand (lenV o (s 4)) (fun x1 =>
demand (binV BinOp.gtr x1 (V.d (.int .i64 40))) (fun x2 =>
opsB C I R_o3 (St.mk (look [(2, (s 2)), (3, (s 3)), (4, (s 4)), (5, (s 5)), (6, (s 6)), (48, (V.d (D.bool false))), (51, x2)]) (looko ([5, 6].map fun n => (n, o n)))) K)))
 (opsB C I R_o3 (St.mk (look [(2, (s 2)), (3, (s 3)), (4, (s 4)), (5, (s 5)), (6, (s 6)), (48, (V.d (D.bool true))), (51, (V.tup []))]) (looko ([5, 6].map fun n => (n, o n)))) K)
 (opsB C I R_o3 (St.mk (look [(2, (s 2)), (3, (s 3)), (4, (s 4)), (5, (s 5)), (6, (s 6)), (48, (V.tup [])), (51, (V.tup []))]) (looko ([5, 6].map fun n => (n, o n)))) K)) := rfl

theorem g_law17_BookBack_o1_sh {R_o2 : List AOper} {C : Ctx} {I : Nat → Prop} {s : Nat → V} {o : Nat → Option Ob} {K : St → Prop} : opsB C I (⟨some 47, .pick (.t 44) (.c (.d (.bool true))) (.t 46), [], [], none, none⟩ ::
     ⟨some 48, .mv (.t 47), [], [], none, (some ([2, 3, 4, 5, 6, 48], (some [5, 6])))⟩ ::
     R_o2) (St.mk s o) K =
 (demand (pickV (s 44) (V.d (.bool true)) (s 46)) (fun x1 =>
opsB C I R_o2 (St.mk (look [(2, (s 2)), (3, (s 3)), (4, (s 4)), (5, (s 5)), (6, (s 6)), (48, x1)]) (looko ([5, 6].map fun n => (n, o n)))) K)) := rfl

theorem g_law17_BookBack_o0_sh {R_o1 : List AOper} {C : Ctx} {I : Nat → Prop} {s : Nat → V} {o : Nat → Option Ob} {K : St → Prop} : opsB C I (⟨some 45, .mv (.t 14), [], [], (some (2, 44, false)), none⟩ ::
     ⟨some 46, .un .not (.t 45), [], [], (some (2, 44, false)), (some ([2, 3, 4, 5, 6, 44, 46], (some [5, 6])))⟩ ::
     R_o1) (St.mk s o) K =
 (guardK (s 44) false
 (demand (unV UnOp.not (s 14)) (fun x1 =>
opsB C I R_o1 (St.mk (look [(2, (s 2)), (3, (s 3)), (4, (s 4)), (5, (s 5)), (6, (s 6)), (44, (V.d (D.bool false))), (46, x1)]) (looko ([5, 6].map fun n => (n, o n)))) K))
 (opsB C I R_o1 (St.mk (look [(2, (s 2)), (3, (s 3)), (4, (s 4)), (5, (s 5)), (6, (s 6)), (44, (V.d (D.bool true))), (46, (V.tup []))]) (looko ([5, 6].map fun n => (n, o n)))) K)
 (opsB C I R_o1 (St.mk (look [(2, (s 2)), (3, (s 3)), (4, (s 4)), (5, (s 5)), (6, (s 6)), (44, (V.tup [])), (46, (V.tup []))]) (looko ([5, 6].map fun n => (n, o n)))) K)) := rfl

theorem g_law17_BookBack_c0_sh {C : Ctx} {I : Nat → Prop} {s : Nat → V} {o : Nat → Option Ob} {Q : Ex → St → Prop} : wpB C I (.cond (.t 52) (.seq (.region [10] (some []) none
     [⟨some 53, .call 4 [], [], [], none, none⟩,
      ⟨some 10, .mv (.t 53), [], [], none, none⟩])
  (.ret))
 (.skip)) (St.mk s o) Q =
 (condK (s 52)
 (callK C I (St.mk s o) (some 53) 4 [] (fun r1 or1 =>
Q .ret (St.mk (look [(10, r1)]) (looko ([].map fun n => (n, or1 n))))))
 (Q .normal (St.mk s o))) := rfl

theorem g_law17_BookBack_c1_sh {C : Ctx} {I : Nat → Prop} {s : Nat → V} {o : Nat → Option Ob} {Q : Ex → St → Prop} : wpB C I (.seq (.region [2, 3, 4, 5, 6, 15, 58, 59, 60, 67] (some [5, 6]) none
    [⟨some 64, .faddr 4 (.t 17), [], [], none, none⟩,
     ⟨some 65, .load none (.t 64), [], [], none, none⟩,
     ⟨some 66, .mv (.t 15), [], [], none, none⟩,
     ⟨some 67, .bin .gtr (.t 65) (.t 66), [], [], none, none⟩])
 (.cond (.t 67) (.seq (.region [10] (some []) none
      [⟨some 68, .call 4 [], [], [], none, none⟩,
       ⟨some 10, .mv (.t 68), [], [], none, none⟩])
   (.ret))
  (.skip))) (St.mk s o) Q =
 (demand (faddrV 4 (s 17)) (fun x1 =>
demand (loadV o none x1) (fun x2 =>
demand (binV BinOp.gtr x2 (s 15)) (fun x3 =>
condK x3
 (callK C I (St.mk (look [(2, (s 2)), (3, (s 3)), (4, (s 4)), (5, (s 5)), (6, (s 6)), (15, (s 15)), (58, (s 58)), (59, (s 59)), (60, (s 60)), (67, x3)]) (looko ([5, 6].map fun n => (n, o n)))) (some 68) 4 [] (fun r4 or4 =>
Q .ret (St.mk (look [(10, r4)]) (looko ([].map fun n => (n, or4 n))))))
 (Q .normal (St.mk (look [(2, (s 2)), (3, (s 3)), (4, (s 4)), (5, (s 5)), (6, (s 6)), (15, (s 15)), (58, (s 58)), (59, (s 59)), (60, (s 60)), (67, x3)]) (looko ([5, 6].map fun n => (n, o n))))))))) := rfl

theorem g_law17_BookBack_c2_sh {C : Ctx} {I : Nat → Prop} {s : Nat → V} {o : Nat → Option Ob} {Q : Ex → St → Prop} : wpB C I (.region [2, 3, 4, 5, 6, 15, 58, 59, 60] (some [5, 6]) none
   [⟨some 69, .bin .add (.t 60) (.c (.d (.int .i64 1))), [], [], none, none⟩,
    ⟨some 60, .mv (.t 69), [], [], none, none⟩]) (St.mk s o) Q =
 (demand (binV BinOp.add (s 60) (V.d (.int .i64 1))) (fun x1 =>
Q .normal (St.mk (look [(2, (s 2)), (3, (s 3)), (4, (s 4)), (5, (s 5)), (6, (s 6)), (15, (s 15)), (58, (s 58)), (59, (s 59)), (60, x1)]) (looko ([5, 6].map fun n => (n, o n)))))) := rfl

theorem g_law17_BookBack_l0_sh {R_l0 : ACode} {R_c1 : ACode} {R_c2 : ACode} {C : Ctx} {I : Nat → Prop} {s : Nat → V} {o : Nat → Option Ob} {Q : Ex → St → Prop} (hL : R_l0 = .loop [2, 3, 4, 5, 6, 15, 58, 59, 60] (some [5, 6]) (.seq (.region [2, 3, 4, 5, 6, 15, 58, 59, 60, 61] (some [5, 6]) none
     [⟨some 61, .bin .lss (.t 60) (.t 59), [], [], none, none⟩])
  (.seq (.cond (.t 61) (.skip)
    (.exit 0))
   (.seq (.block 1 [2, 3, 4, 5, 6, 15, 58, 59, 60] (some [5, 6]) (.seq (.region [2, 3, 4, 5, 6, 15, 17, 58, 59, 60] (some [5, 6, 17]) none
         [⟨some 62, .iaddr 22 (.t 58) (.t 60), [], [], none, none⟩,
          ⟨some 63, .load (some 22) (.t 62), [], [], none, none⟩,
          ⟨some 17, .alloc 17 [.d (.int .i64 0), .d (.int .i64 0), .d (.int .i64 0), .d (.int .i64 0), .d (.int .i64 0), .cap0, .d (.int .i64 0), .d (.int .i64 0), .d (.int .i64 0), .d (.int .i64 0), .d (.int .i64 0), .d (.int .i64 0), .d (.int .i64 0), .d (.int .i64 0), .d (.int .i64 0), .d (.int .i64 0), .d (.int .i64 0), .d (.int .i64 0), .cap0, .cap0, .cap0, .cap0], [], [], none, none⟩,
          ⟨none, .store 22 (.t 17) (.t 63), [], [], none, none⟩])
      (R_c1)))
    (R_c2)))))
 (h : demand (binV BinOp.lss (s 60) (s 59)) (fun x1 =>
condK x1
 (demand (iaddrV (looko ([5, 6].map fun n => (n, o n))) 22 (s 58) (s 60)) (fun x2 =>
demand (loadV (looko ([5, 6].map fun n => (n, o n))) (some 22) x2) (fun x3 =>
(¬ I 17 ∧ Fresh (St.mk (upd (upd (look [(2, (s 2)), (3, (s 3)), (4, (s 4)), (5, (s 5)), (6, (s 6)), (15, (s 15)), (58, (s 58)), (59, (s 59)), (60, (s 60)), (61, x1)]) 62 x2) 63 x3) (looko ([5, 6].map fun n => (n, o n)))) 17 (some 17) ∧ V.refsL 17 [V.d (.int .i64 0), V.d (.int .i64 0), V.d (.int .i64 0), V.d (.int .i64 0), V.d (.int .i64 0), V.cap0, V.d (.int .i64 0), V.d (.int .i64 0), V.d (.int .i64 0), V.d (.int .i64 0), V.d (.int .i64 0), V.d (.int .i64 0), V.d (.int .i64 0), V.d (.int .i64 0), V.d (.int .i64 0), V.d (.int .i64 0), V.d (.int .i64 0), V.d (.int .i64 0), V.cap0, V.cap0, V.cap0, V.cap0] = false ∧
storeK (V.ptr 17 0) (cellsV x3) 22 (upd (looko ([5, 6].map fun n => (n, o n))) 17 (some (Ob.box [V.d (.int .i64 0), V.d (.int .i64 0), V.d (.int .i64 0), V.d (.int .i64 0), V.d (.int .i64 0), V.cap0, V.d (.int .i64 0), V.d (.int .i64 0), V.d (.int .i64 0), V.d (.int .i64 0), V.d (.int .i64 0), V.d (.int .i64 0), V.d (.int .i64 0), V.d (.int .i64 0), V.d (.int .i64 0), V.d (.int .i64 0), V.d (.int .i64 0), V.d (.int .i64 0), V.cap0, V.cap0, V.cap0, V.cap0]))) (fun m4 ob5 =>
wpB C I R_c1 (St.mk (look [(2, (s 2)), (3, (s 3)), (4, (s 4)), (5, (s 5)), (6, (s 6)), (15, (s 15)), (17, (V.ptr 17 0)), (58, (s 58)), (59, (s 59)), (60, (s 60))]) (looko ([5, 6, 17].map fun n => (n, (upd (upd (looko ([5, 6].map fun n => (n, o n))) 17 (some (Ob.box [V.d (.int .i64 0), V.d (.int .i64 0), V.d (.int .i64 0), V.d (.int .i64 0), V.d (.int .i64 0), V.cap0, V.d (.int .i64 0), V.d (.int .i64 0), V.d (.int .i64 0), V.d (.int .i64 0), V.d (.int .i64 0), V.d (.int .i64 0), V.d (.int .i64 0), V.d (.int .i64 0), V.d (.int .i64 0), V.d (.int .i64 0), V.d (.int .i64 0), V.d (.int .i64 0), V.cap0, V.cap0, V.cap0, V.cap0]))) m4 (some ob5)) n)))) (blockK 1 [2, 3, 4, 5, 6, 15, 58, 59, 60] (some [5, 6]) (seqK (fun st => wpB C I R_c2 st (seqK (fun s => wpB C I R_l0 s Q) Q)) (seqK (fun s => wpB C I R_l0 s Q) Q))))))))
 (Q (.exit 0) (St.mk (look [(2, (s 2)), (3, (s 3)), (4, (s 4)), (5, (s 5)), (6, (s 6)), (15, (s 15)), (58, (s 58)), (59, (s 59)), (60, (s 60)), (61, x1)]) (looko ([5, 6].map fun n => (n, o n))))))) : wpB C I R_l0 (St.mk s o) Q := w_loopC hL h

theorem g_law17_BookBack_c3_sh {R_l0 : ACode} {C : Ctx} {I : Nat → Prop} {s : Nat → V} {o : Nat → Option Ob} {Q : Ex → St → Prop} : wpB C I (.block 0 [2, 3, 4, 5, 6, 15] (some [5, 6]) (R_l0)) (St.mk s o) Q =
 (wpB C I R_l0 (St.mk s o) (blockK 0 [2, 3, 4, 5, 6, 15] (some [5, 6]) Q)) := rfl

theorem g_law17_BookBack_o5_sh {C : Ctx} {I : Nat → Prop} {s : Nat → V} {o : Nat → Option Ob} {K : St → Prop} : opsB C I [⟨some 85, .pick (.t 83) (.t 84) (.c (.d (.bool false))), [], [], none, none⟩,
     ⟨some 10, .mv (.t 85), [], [], none, none⟩] (St.mk s o) K =
 (demand (pickV (s 83) (s 84) (V.d (.bool false))) (fun x1 =>
K (St.mk (upd (upd s 85 x1) 10 x1) o))) := rfl

theorem g_law17_BookBack_o4_sh {R_o5 : List AOper} {C : Ctx} {I : Nat → Prop} {s : Nat → V} {o : Nat → Option Ob} {K : St → Prop} : opsB C I (⟨some 84, .call 4 [], [], [], (some (5, 83, true)), (some ([83, 84], (some [])))⟩ ::
     R_o5) (St.mk s o) K =
 (guardK (s 83) true
 (callK C I (St.mk (upd s 83 (V.d (D.bool true))) o) (some 84) 4 [] (fun r1 or1 =>
opsB C I R_o5 (St.mk (look [(83, (V.d (D.bool true))), (84, r1)]) (looko ([].map fun n => (n, or1 n)))) K))
 (opsB C I R_o5 (St.mk (look [(83, (V.d (D.bool false))), (84, (V.tup []))]) (looko ([].map fun n => (n, o n)))) K)
 (opsB C I R_o5 (St.mk (look [(83, (V.tup [])), (84, (V.tup []))]) (looko ([].map fun n => (n, o n)))) K)) := rfl

theorem g_law17_BookBack_c4_sh {C : Ctx} {I : Nat → Prop} {s : Nat → V} {o : Nat → Option Ob} {Q : Ex → St → Prop} : wpB C I (.ret) (St.mk s o) Q =
 (Q .ret (St.mk s o)) := rfl

theorem g_law17_BookBack_t16_sh {C : Ctx} {I : Nat → Prop} {s : Nat → V} {o : Nat → Option Ob} {K : St → Prop} : treeB C I g_law17_BookBack.a6 (.one 13 .done) (St.mk s o) K =
 ((([] : List Nat) = [] ∧ (storeK (s 25) (cellsV (s 107)) 5 o (fun m1 ob2 =>
K (St.mk s (upd o m1 (some ob2))))))) := rfl

theorem g_law17_BookBack_t17_sh {R_t16 : Tr} {C : Ctx} {I : Nat → Prop} {s : Nat → V} {o : Nat → Option Ob} {K : St → Prop} : treeB C I g_law17_BookBack.a6 (.one 12 R_t16) (St.mk s o) K =
 ((([] : List Nat) = [] ∧ (storeK (s 24) (cellsV (s 102)) 5 o (fun m1 ob2 =>
treeB C I g_law17_BookBack.a6 R_t16 (St.mk s (upd o m1 (some ob2))) K)))) := rfl

theorem g_law17_BookBack_t18_sh {R_t17 : Tr} {C : Ctx} {I : Nat → Prop} {s : Nat → V} {o : Nat → Option Ob} {K : St → Prop} : treeB C I g_law17_BookBack.a6 (.one 11 R_t17) (St.mk s o) K =
 ((([] : List Nat) = [] ∧ ((¬ I 25 ∧ Fresh (St.mk s o) 25 (some 25) ∧ V.refsL 25 [V.d (.int .i64 0), V.d (.int .i64 0), V.d (.int .i64 0), V.cap0, V.cap0] = false ∧
treeB C I g_law17_BookBack.a6 R_t17 (St.mk (upd s 25 (V.ptr 25 0)) (upd o 25 (some (Ob.box [V.d (.int .i64 0), V.d (.int .i64 0), V.d (.int .i64 0), V.cap0, V.cap0])))) K)))) := rfl

theorem g_law17_BookBack_t19_sh {R_t17 : Tr} {C : Ctx} {I : Nat → Prop} {s : Nat → V} {o : Nat → Option Ob} {K : St → Prop} : treeB C I g_law17_BookBack.a6 (.one 10 R_t17) (St.mk s o) K =
 ((([] : List Nat) = [] ∧ ((¬ I 24 ∧ Fresh (St.mk s o) 24 (some 24) ∧ V.refsL 24 [V.d (.int .i64 0), V.d (.int .i64 0), V.d (.int .i64 0), V.cap0, V.cap0] = false ∧
treeB C I g_law17_BookBack.a6 R_t17 (St.mk (upd s 24 (V.ptr 24 0)) (upd o 24 (some (Ob.box [V.d (.int .i64 0), V.d (.int .i64 0), V.d (.int .i64 0), V.cap0, V.cap0])))) K)))) := rfl

theorem g_law17_BookBack_t20_sh {R_t19 : Tr} {C : Ctx} {I : Nat → Prop} {s : Nat → V} {o : Nat → Option Ob} {K : St → Prop} : treeB C I g_law17_BookBack.a6 (.one 11 R_t19) (St.mk s o) K =
 ((([] : List Nat) = [] ∧ ((¬ I 25 ∧ Fresh (St.mk s o) 25 (some 25) ∧ V.refsL 25 [V.d (.int .i64 0), V.d (.int .i64 0), V.d (.int .i64 0), V.cap0, V.cap0] = false ∧
treeB C I g_law17_BookBack.a6 R_t19 (St.mk (upd s 25 (V.ptr 25 0)) (upd o 25 (some (Ob.box [V.d (.int .i64 0), V.d (.int .i64 0), V.d (.int .i64 0), V.cap0, V.cap0])))) K)))) := rfl

theorem g_law17_BookBack_t21_sh {R_t18 : Tr} {R_t20 : Tr} {C : Ctx} {I : Nat → Prop} {s : Nat → V} {o : Nat → Option Ob} {K : St → Prop} : treeB C I g_law17_BookBack.a6 (.two 10 R_t18 R_t20) (St.mk s o) K =
 ((([] : List Nat) = [] ∧ ((¬ I 24 ∧ Fresh (St.mk s o) 24 (some 24) ∧ V.refsL 24 [V.d (.int .i64 0), V.d (.int .i64 0), V.d (.int .i64 0), V.cap0, V.cap0] = false ∧
treeB C I g_law17_BookBack.a6 R_t18 (St.mk (upd s 24 (V.ptr 24 0)) (upd o 24 (some (Ob.box [V.d (.int .i64 0), V.d (.int .i64 0), V.d (.int .i64 0), V.cap0, V.cap0])))) K))) ∧ treeB C I g_law17_BookBack.a6 R_t20 (St.mk s o) K) := rfl

theorem g_law17_BookBack_i15_sh {R_t21 : Tr} {C : Ctx} {I : Nat → Prop} {s : Nat → V} {o : Nat → Option Ob} {K : St → Prop} : drawB C I g_law17_BookBack.a6 (9 :: []) R_t21 (St.mk s o) K =
 ((s 107) = V.undef ∧ (∃ x1, SoundAt C 6 ⟨[(s 103), (s 104), (s 106), (V.d (.int .i64 6))], fun _ => none⟩ ⟨x1, fun _ => none⟩ ∧ (∀ n, V.refs n x1 = false) ∧ quietV o (x1 :: [(s 103), (s 104), (s 106), (V.d (.int .i64 6))]) ∧
treeB C I g_law17_BookBack.a6 R_t21 (St.mk (upd s 107 x1) o) K)) := rfl

theorem g_law17_BookBack_i14_sh {R_i15 : List Nat} {R_t21 : Tr} {C : Ctx} {I : Nat → Prop} {s : Nat → V} {o : Nat → Option Ob} {K : St → Prop} : drawB C I g_law17_BookBack.a6 (8 :: R_i15) R_t21 (St.mk s o) K =
 ((s 106) = V.undef ∧ (demand (binV BinOp.quo (s 105) (V.d (.int .i64 12))) (fun x1 => quietV o (x1 :: [(s 105), (V.d (.int .i64 12))]) ∧
drawB C I g_law17_BookBack.a6 R_i15 R_t21 (St.mk (upd s 106 x1) o) K))) := rfl

theorem g_law17_BookBack_i13_sh {R_i14 : List Nat} {R_t21 : Tr} {C : Ctx} {I : Nat → Prop} {s : Nat → V} {o : Nat → Option Ob} {K : St → Prop} : drawB C I g_law17_BookBack.a6 (7 :: R_i14) R_t21 (St.mk s o) K =
 ((s 105) = V.undef ∧ (quietV o ((s 3) :: [(s 3)]) ∧
drawB C I g_law17_BookBack.a6 R_i14 R_t21 (St.mk (upd s 105 (s 3)) o) K)) := rfl

theorem g_law17_BookBack_i12_sh {R_i13 : List Nat} {R_t21 : Tr} {C : Ctx} {I : Nat → Prop} {s : Nat → V} {o : Nat → Option Ob} {K : St → Prop} : drawB C I g_law17_BookBack.a6 (6 :: R_i13) R_t21 (St.mk s o) K =
 ((s 104) = V.undef ∧ (quietV o ((s 2) :: [(s 2)]) ∧
drawB C I g_law17_BookBack.a6 R_i13 R_t21 (St.mk (upd s 104 (s 2)) o) K)) := rfl

theorem g_law17_BookBack_i11_sh {R_i12 : List Nat} {R_t21 : Tr} {C : Ctx} {I : Nat → Prop} {s : Nat → V} {o : Nat → Option Ob} {K : St → Prop} : drawB C I g_law17_BookBack.a6 (5 :: R_i12) R_t21 (St.mk s o) K =
 ((s 103) = V.undef ∧ (demand (loadV o (some 1) (s 20)) (fun x1 => quietV o (x1 :: [(s 20)]) ∧
drawB C I g_law17_BookBack.a6 R_i12 R_t21 (St.mk (upd s 103 x1) o) K))) := rfl

theorem g_law17_BookBack_i10_sh {R_i11 : List Nat} {R_t21 : Tr} {C : Ctx} {I : Nat → Prop} {s : Nat → V} {o : Nat → Option Ob} {K : St → Prop} : drawB C I g_law17_BookBack.a6 (4 :: R_i11) R_t21 (St.mk s o) K =
 ((s 102) = V.undef ∧ (∃ x1, SoundAt C 6 ⟨[(s 98), (s 99), (s 101), (V.d (.int .i64 6))], fun _ => none⟩ ⟨x1, fun _ => none⟩ ∧ (∀ n, V.refs n x1 = false) ∧ quietV o (x1 :: [(s 98), (s 99), (s 101), (V.d (.int .i64 6))]) ∧
drawB C I g_law17_BookBack.a6 R_i11 R_t21 (St.mk (upd s 102 x1) o) K)) := rfl

theorem g_law17_BookBack_i9_sh {R_i10 : List Nat} {R_t21 : Tr} {C : Ctx} {I : Nat → Prop} {s : Nat → V} {o : Nat → Option Ob} {K : St → Prop} : drawB C I g_law17_BookBack.a6 (3 :: R_i10) R_t21 (St.mk s o) K =
 ((s 101) = V.undef ∧ (demand (binV BinOp.quo (s 100) (V.d (.int .i64 12))) (fun x1 => quietV o (x1 :: [(s 100), (V.d (.int .i64 12))]) ∧
drawB C I g_law17_BookBack.a6 R_i10 R_t21 (St.mk (upd s 101 x1) o) K))) := rfl

theorem g_law17_BookBack_i8_sh {R_i9 : List Nat} {R_t21 : Tr} {C : Ctx} {I : Nat → Prop} {s : Nat → V} {o : Nat → Option Ob} {K : St → Prop} : drawB C I g_law17_BookBack.a6 (2 :: R_i9) R_t21 (St.mk s o) K =
 ((s 100) = V.undef ∧ (quietV o ((s 3) :: [(s 3)]) ∧
drawB C I g_law17_BookBack.a6 R_i9 R_t21 (St.mk (upd s 100 (s 3)) o) K)) := rfl

theorem g_law17_BookBack_i7_sh {R_i8 : List Nat} {R_t21 : Tr} {C : Ctx} {I : Nat → Prop} {s : Nat → V} {o : Nat → Option Ob} {K : St → Prop} : drawB C I g_law17_BookBack.a6 (1 :: R_i8) R_t21 (St.mk s o) K =
 ((s 99) = V.undef ∧ (quietV o ((s 2) :: [(s 2)]) ∧
drawB C I g_law17_BookBack.a6 R_i8 R_t21 (St.mk (upd s 99 (s 2)) o) K)) := rfl

theorem g_law17_BookBack_o27_sh {C : Ctx} {I : Nat → Prop} {s : Nat → V} {o : Nat → Option Ob} {K : St → Prop} : opsB C I [⟨some 136, .pick (.t 129) (.c (.d (.bool true))) (.t 135), [], [], none, none⟩] (St.mk s o) K =
 (demand (pickV (s 129) (V.d (.bool true)) (s 135)) (fun x1 =>
K (St.mk (upd s 136 x1) o))) := rfl

theorem g_law17_BookBack_o26_sh {R_o27 : List AOper} {C : Ctx} {I : Nat → Prop} {s : Nat → V} {o : Nat → Option Ob} {K : St → Prop} : opsB C I (⟨some 130, .faddr 0 (.t 20), [], [], (some (13, 129, false)), none⟩ ::
     ⟨some 131, .load none (.t 130), [], [], (some (13, 129, false)), none⟩ ::
     ⟨some 132, .len (.t 131), [], [], (some (13, 129, false)), none⟩ ::
     ⟨some 133, .mv (.t 15), [], [], (some (13, 129, false)), none⟩ ::
     ⟨some 134, .bin .add (.t 133) (.c (.d (.int .i64 2))), [], [], (some (13, 129, false)), none⟩ ::
     ⟨some 135, .bin .neq (.t 132) (.t 134), [], [], (some (13, 129, false)), (some ([2, 3, 5, 15, 20, 24, 25, 26, 27, 129, 135], (some [5, 20, 24, 25])))⟩ ::
     R_o27) (St.mk s o) K =
 (guardK (s 129) false
 (demand (faddrV 0 (s 20)) (fun x1 =>
demand (loadV o none x1) (fun x2 =>
demand (lenV o x2) (fun x3 =>
demand (binV BinOp.add (s 15) (V.d (.int .i64 2))) (fun x4 =>
demand (binV BinOp.neq x3 x4) (fun x5 =>
opsB C I R_o27 (St.mk (look [(2, (s 2)), (3, (s 3)), (5, (s 5)), (15, (s 15)), (20, (s 20)), (24, (s 24)), (25, (s 25)), (26, (s 26)), (27, (s 27)), (129, (V.d (D.bool false))), (135, x5)]) (looko ([5, 20, 24, 25].map fun n => (n, o n)))) K))))))
 (opsB C I R_o27 (St.mk (look [(2, (s 2)), (3, (s 3)), (5, (s 5)), (15, (s 15)), (20, (s 20)), (24, (s 24)), (25, (s 25)), (26, (s 26)), (27, (s 27)), (129, (V.d (D.bool true))), (135, (V.tup []))]) (looko ([5, 20, 24, 25].map fun n => (n, o n)))) K)
 (opsB C I R_o27 (St.mk (look [(2, (s 2)), (3, (s 3)), (5, (s 5)), (15, (s 15)), (20, (s 20)), (24, (s 24)), (25, (s 25)), (26, (s 26)), (27, (s 27)), (129, (V.tup [])), (135, (V.tup []))]) (looko ([5, 20, 24, 25].map fun n => (n, o n)))) K)) := rfl

theorem g_law17_BookBack_o25_sh {R_o26 : List AOper} {C : Ctx} {I : Nat → Prop} {s : Nat → V} {o : Nat → Option Ob} {K : St → Prop} : opsB C I (⟨some 128, .pick (.t 122) (.c (.d (.bool true))) (.t 127), [], [], none, none⟩ ::
     ⟨some 129, .mv (.t 128), [], [], none, (some ([2, 3, 5, 15, 20, 24, 25, 26, 27, 129], (some [5, 20, 24, 25])))⟩ ::
     R_o26) (St.mk s o) K =
 (demand (pickV (s 122) (V.d (.bool true)) (s 127)) (fun x1 =>
opsB C I R_o26 (St.mk (look [(2, (s 2)), (3, (s 3)), (5, (s 5)), (15, (s 15)), (20, (s 20)), (24, (s 24)), (25, (s 25)), (26, (s 26)), (27, (s 27)), (129, x1)]) (looko ([5, 20, 24, 25].map fun n => (n, o n)))) K)) := rfl

theorem g_law17_BookBack_o24_sh {R_o25 : List AOper} {C : Ctx} {I : Nat → Prop} {s : Nat → V} {o : Nat → Option Ob} {K : St → Prop} : opsB C I (⟨some 123, .mv (.t 26), [], [], (some (6, 122, false)), none⟩ ::
     ⟨some 124, .len (.t 123), [], [], (some (6, 122, false)), none⟩ ::
     ⟨some 125, .mv (.t 27), [], [], (some (6, 122, false)), none⟩ ::
     ⟨some 126, .len (.t 125), [], [], (some (6, 122, false)), none⟩ ::
     ⟨some 127, .bin .neq (.t 124) (.t 126), [], [], (some (6, 122, false)), (some ([2, 3, 5, 15, 20, 24, 25, 26, 27, 122, 127], (some [5, 20, 24, 25])))⟩ ::
     R_o25) (St.mk s o) K =
 (guardK (s 122) false
 (demand (lenV o (s 26)) (fun x1 =>
demand (lenV o (s 27)) (fun x2 =>
demand (binV BinOp.neq x1 x2) (fun x3 =>
opsB C I R_o25 (St.mk (look [(2, (s 2)), (3, (s 3)), (5, (s 5)), (15, (s 15)), (20, (s 20)), (24, (s 24)), (25, (s 25)), (26, (s 26)), (27, (s 27)), (122, (V.d (D.bool false))), (127, x3)]) (looko ([5, 20, 24, 25].map fun n => (n, o n)))) K))))
 (opsB C I R_o25 (St.mk (look [(2, (s 2)), (3, (s 3)), (5, (s 5)), (15, (s 15)), (20, (s 20)), (24, (s 24)), (25, (s 25)), (26, (s 26)), (27, (s 27)), (122, (V.d (D.bool true))), (127, (V.tup []))]) (looko ([5, 20, 24, 25].map fun n => (n, o n)))) K)
 (opsB C I R_o25 (St.mk (look [(2, (s 2)), (3, (s 3)), (5, (s 5)), (15, (s 15)), (20, (s 20)), (24, (s 24)), (25, (s 25)), (26, (s 26)), (27, (s 27)), (122, (V.tup [])), (127, (V.tup []))]) (looko ([5, 20, 24, 25].map fun n => (n, o n)))) K)) := rfl

theorem g_law17_BookBack_o23_sh {R_o24 : List AOper} {C : Ctx} {I : Nat → Prop} {s : Nat → V} {o : Nat → Option Ob} {K : St → Prop} : opsB C I (⟨some 121, .pick (.t 118) (.c (.d (.bool true))) (.t 120), [], [], none, none⟩ ::
     ⟨some 122, .mv (.t 121), [], [], none, (some ([2, 3, 5, 15, 20, 24, 25, 26, 27, 122], (some [5, 20, 24, 25])))⟩ ::
     R_o24) (St.mk s o) K =
 (demand (pickV (s 118) (V.d (.bool true)) (s 120)) (fun x1 =>
opsB C I R_o24 (St.mk (look [(2, (s 2)), (3, (s 3)), (5, (s 5)), (15, (s 15)), (20, (s 20)), (24, (s 24)), (25, (s 25)), (26, (s 26)), (27, (s 27)), (122, x1)]) (looko ([5, 20, 24, 25].map fun n => (n, o n)))) K)) := rfl

theorem g_law17_BookBack_o22_sh {R_o23 : List AOper} {C : Ctx} {I : Nat → Prop} {s : Nat → V} {o : Nat → Option Ob} {K : St → Prop} : opsB C I (⟨some 119, .mv (.t 23), [], [], (some (2, 118, false)), none⟩ ::
     ⟨some 120, .bin .neq (.t 119) (.c (.d (.int .i64 0))), [], [], (some (2, 118, false)), (some ([2, 3, 5, 15, 20, 24, 25, 26, 27, 118, 120], (some [5, 20, 24, 25])))⟩ ::
     R_o23) (St.mk s o) K =
 (guardK (s 118) false
 (demand (binV BinOp.neq (s 23) (V.d (.int .i64 0))) (fun x1 =>
opsB C I R_o23 (St.mk (look [(2, (s 2)), (3, (s 3)), (5, (s 5)), (15, (s 15)), (20, (s 20)), (24, (s 24)), (25, (s 25)), (26, (s 26)), (27, (s 27)), (118, (V.d (D.bool false))), (120, x1)]) (looko ([5, 20, 24, 25].map fun n => (n, o n)))) K))
 (opsB C I R_o23 (St.mk (look [(2, (s 2)), (3, (s 3)), (5, (s 5)), (15, (s 15)), (20, (s 20)), (24, (s 24)), (25, (s 25)), (26, (s 26)), (27, (s 27)), (118, (V.d (D.bool true))), (120, (V.tup []))]) (looko ([5, 20, 24, 25].map fun n => (n, o n)))) K)
 (opsB C I R_o23 (St.mk (look [(2, (s 2)), (3, (s 3)), (5, (s 5)), (15, (s 15)), (20, (s 20)), (24, (s 24)), (25, (s 25)), (26, (s 26)), (27, (s 27)), (118, (V.tup [])), (120, (V.tup []))]) (looko ([5, 20, 24, 25].map fun n => (n, o n)))) K)) := rfl

theorem g_law17_BookBack_c5_sh {C : Ctx} {I : Nat → Prop} {s : Nat → V} {o : Nat → Option Ob} {Q : Ex → St → Prop} : wpB C I (.cond (.t 136) (.seq (.region [10] (some []) none
     [⟨some 10, .mv (.c (.d (.bool false))), [], [], none, none⟩])
  (.ret))
 (.skip)) (St.mk s o) Q =
 (condK (s 136)
 (Q .ret (St.mk (look [(10, (V.d (.bool false)))]) (looko ([].map fun n => (n, o n)))))
 (Q .normal (St.mk s o))) := rfl

theorem g_law17_BookBack_c6_sh {C : Ctx} {I : Nat → Prop} {s : Nat → V} {o : Nat → Option Ob} {Q : Ex → St → Prop} : wpB C I (.region [2, 3, 5, 15, 20, 24, 25, 26, 27, 138, 139] (some [5, 20, 24, 25]) none
   [⟨some 151, .bin .add (.t 139) (.c (.d (.int .i64 1))), [], [], none, none⟩,
    ⟨some 139, .mv (.t 151), [], [], none, none⟩]) (St.mk s o) Q =
 (demand (binV BinOp.add (s 139) (V.d (.int .i64 1))) (fun x1 =>
Q .normal (St.mk (look [(2, (s 2)), (3, (s 3)), (5, (s 5)), (15, (s 15)), (20, (s 20)), (24, (s 24)), (25, (s 25)), (26, (s 26)), (27, (s 27)), (138, (s 138)), (139, x1)]) (looko ([5, 20, 24, 25].map fun n => (n, o n)))))) := rfl

theorem g_law17_BookBack_l1_sh {R_l1 : ACode} {R_c6 : ACode} {C : Ctx} {I : Nat → Prop} {s : Nat → V} {o : Nat → Option Ob} {Q : Ex → St → Prop} (hL : R_l1 = .loop [2, 3, 5, 15, 20, 24, 25, 26, 27, 138, 139] (some [5, 20, 24, 25]) (.seq (.region [2, 3, 5, 15, 20, 24, 25, 26, 27, 138, 139, 140] (some [5, 20, 24, 25]) none
     [⟨some 140, .bin .lss (.t 139) (.t 138), [], [], none, none⟩])
  (.seq (.cond (.t 140) (.skip)
    (.exit 2))
   (.seq (.block 3 [2, 3, 5, 15, 20, 24, 25, 26, 27, 138, 139] (some [5, 20, 24, 25]) (.seq (.region [2, 3, 5, 15, 20, 24, 25, 26, 27, 28, 138, 139] (some [5, 20, 24, 25]) none
         [⟨some 141, .mv (.t 139), [], [], none, none⟩,
          ⟨some 28, .mv (.t 141), [], [], none, none⟩])
      (.seq (.region [2, 3, 5, 15, 20, 24, 25, 26, 27, 138, 139, 150] (some [5, 20, 24, 25]) (some ([0, 1, 2, 3, 4, 5, 6, 7, 8], .done))
          [⟨some 142, .mv (.t 26), [], [], none, none⟩,
           ⟨some 143, .mv (.t 28), [], [], none, none⟩,
           ⟨some 144, .iaddr 4 (.t 142) (.t 143), [], [0, 1], none, none⟩,
           ⟨some 145, .load (some 4) (.t 144), [], [2], none, none⟩,
           ⟨some 146, .mv (.t 27), [], [], none, none⟩,
           ⟨some 147, .mv (.t 28), [], [], none, none⟩,
           ⟨some 148, .iaddr 4 (.t 146) (.t 147), [], [4, 5], none, none⟩,
           ⟨some 149, .load (some 4) (.t 148), [], [6], none, none⟩,
           ⟨some 150, .eqs true [0, 0, 0, 0] (.t 145) (.t 149), [], [3, 7], none, none⟩])
       (.cond (.t 150) (.seq (.region [10] (some []) none
            [⟨some 10, .mv (.c (.d (.bool false))), [], [], none, none⟩])
         (.ret))
        (.skip)))))
    (R_c6)))))
 (h : demand (binV BinOp.lss (s 139) (s 138)) (fun x1 =>
condK x1
 (V.undef = V.undef ∧ (quietV (looko ([5, 20, 24, 25].map fun n => (n, o n))) ((s 26) :: [(s 26)]) ∧
V.undef = V.undef ∧ (quietV (looko ([5, 20, 24, 25].map fun n => (n, o n))) ((s 139) :: [(s 139)]) ∧
V.undef = V.undef ∧ (demand (iaddrV (looko ([5, 20, 24, 25].map fun n => (n, o n))) 4 (s 26) (s 139)) (fun x4 => quietV (looko ([5, 20, 24, 25].map fun n => (n, o n))) (x4 :: [(s 26), (s 139)]) ∧
V.undef = V.undef ∧ (demand (loadV (looko ([5, 20, 24, 25].map fun n => (n, o n))) (some 4) x4) (fun x5 => quietV (looko ([5, 20, 24, 25].map fun n => (n, o n))) (x5 :: [x4]) ∧
V.undef = V.undef ∧ (quietV (looko ([5, 20, 24, 25].map fun n => (n, o n))) ((s 27) :: [(s 27)]) ∧
V.undef = V.undef ∧ (quietV (looko ([5, 20, 24, 25].map fun n => (n, o n))) ((s 139) :: [(s 139)]) ∧
V.undef = V.undef ∧ (demand (iaddrV (looko ([5, 20, 24, 25].map fun n => (n, o n))) 4 (s 27) (s 139)) (fun x8 => quietV (looko ([5, 20, 24, 25].map fun n => (n, o n))) (x8 :: [(s 27), (s 139)]) ∧
V.undef = V.undef ∧ (demand (loadV (looko ([5, 20, 24, 25].map fun n => (n, o n))) (some 4) x8) (fun x9 => quietV (looko ([5, 20, 24, 25].map fun n => (n, o n))) (x9 :: [x8]) ∧
V.undef = V.undef ∧ (demand (eqsV true [0, 0, 0, 0] x5 x9) (fun x10 => quietV (looko ([5, 20, 24, 25].map fun n => (n, o n))) (x10 :: [x5, x9]) ∧
condK x10
 (Q .ret (St.mk (look [(10, (V.d (.bool false)))]) (looko ([].map fun n => (n, o n)))))
 (wpB C I R_c6 (St.mk (look [(2, (s 2)), (3, (s 3)), (5, (s 5)), (15, (s 15)), (20, (s 20)), (24, (s 24)), (25, (s 25)), (26, (s 26)), (27, (s 27)), (138, (s 138)), (139, (s 139))]) (looko ([5, 20, 24, 25].map fun n => (n, o n)))) (seqK (fun s => wpB C I R_l1 s Q) Q)))))))))))))))))
 (Q (.exit 2) (St.mk (look [(2, (s 2)), (3, (s 3)), (5, (s 5)), (15, (s 15)), (20, (s 20)), (24, (s 24)), (25, (s 25)), (26, (s 26)), (27, (s 27)), (138, (s 138)), (139, (s 139)), (140, x1)]) (looko ([5, 20, 24, 25].map fun n => (n, o n))))))) : wpB C I R_l1 (St.mk s o) Q := w_loopC hL h

theorem g_law17_BookBack_c7_sh {C : Ctx} {I : Nat → Prop} {s : Nat → V} {o : Nat → Option Ob} {Q : Ex → St → Prop} : wpB C I (.region [2, 3, 5, 15, 20, 24, 25, 152, 153] (some [5, 20, 24, 25]) none
   [⟨some 163, .bin .add (.t 153) (.c (.d (.int .i64 1))), [], [], none, none⟩,
    ⟨some 153, .mv (.t 163), [], [], none, none⟩]) (St.mk s o) Q =
 (demand (binV BinOp.add (s 153) (V.d (.int .i64 1))) (fun x1 =>
Q .normal (St.mk (look [(2, (s 2)), (3, (s 3)), (5, (s 5)), (15, (s 15)), (20, (s 20)), (24, (s 24)), (25, (s 25)), (152, (s 152)), (153, x1)]) (looko ([5, 20, 24, 25].map fun n => (n, o n)))))) := rfl

theorem g_law17_BookBack_l2_sh {R_l2 : ACode} {R_c7 : ACode} {C : Ctx} {I : Nat → Prop} {s : Nat → V} {o : Nat → Option Ob} {Q : Ex → St → Prop} (hL : R_l2 = .loop [2, 3, 5, 15, 20, 24, 25, 152, 153] (some [5, 20, 24, 25]) (.seq (.region [2, 3, 5, 15, 20, 24, 25, 152, 153, 154] (some [5, 20, 24, 25]) none
     [⟨some 154, .bin .lss (.t 153) (.t 152), [], [], none, none⟩])
  (.seq (.cond (.t 154) (.skip)
    (.exit 4))
   (.seq (.block 5 [2, 3, 5, 15, 20, 24, 25, 152, 153] (some [5, 20, 24, 25]) (.seq (.region [2, 3, 5, 15, 20, 24, 25, 29, 152, 153] (some [5, 20, 24, 25]) none
         [⟨some 155, .mv (.t 153), [], [], none, none⟩,
          ⟨some 29, .mv (.t 155), [], [], none, none⟩])
      (.seq (.region [2, 3, 5, 15, 20, 24, 25, 152, 153, 162] (some [5, 20, 24, 25]) (some ([0, 1, 2, 3, 4, 5, 6], .done))
          [⟨some 156, .load (some 1) (.t 5), [], [], none, none⟩,
           ⟨some 157, .mv (.t 29), [], [], none, none⟩,
           ⟨some 158, .call 9 [(.t 156), (.t 157)], [], [0, 1], none, none⟩,
           ⟨some 159, .load (some 1) (.t 20), [], [], none, none⟩,
           ⟨some 160, .mv (.t 29), [], [], none, none⟩,
           ⟨some 161, .call 9 [(.t 159), (.t 160)], [], [3, 4, 2], none, none⟩,
           ⟨some 162, .beq true (.t 158) (.t 161), [], [2, 5], none, none⟩])
       (.cond (.t 162) (.seq (.region [10] (some []) none
            [⟨some 10, .mv (.c (.d (.bool false))), [], [], none, none⟩])
         (.ret))
        (.skip)))))
    (R_c7)))))
 (h : demand (binV BinOp.lss (s 153) (s 152)) (fun x1 =>
condK x1
 (V.undef = V.undef ∧ (demand (loadV (looko ([5, 20, 24, 25].map fun n => (n, o n))) (some 1) (s 5)) (fun x2 => quietV (looko ([5, 20, 24, 25].map fun n => (n, o n))) (x2 :: [(s 5)]) ∧
V.undef = V.undef ∧ (quietV (looko ([5, 20, 24, 25].map fun n => (n, o n))) ((s 153) :: [(s 153)]) ∧
V.undef = V.undef ∧ (∃ x4, SoundAt C 9 ⟨[x2, (s 153)], fun _ => none⟩ ⟨x4, fun _ => none⟩ ∧ (∀ n, V.refs n x4 = false) ∧ quietV (looko ([5, 20, 24, 25].map fun n => (n, o n))) (x4 :: [x2, (s 153)]) ∧
V.undef = V.undef ∧ (demand (loadV (looko ([5, 20, 24, 25].map fun n => (n, o n))) (some 1) (s 20)) (fun x5 => quietV (looko ([5, 20, 24, 25].map fun n => (n, o n))) (x5 :: [(s 20)]) ∧
V.undef = V.undef ∧ (quietV (looko ([5, 20, 24, 25].map fun n => (n, o n))) ((s 153) :: [(s 153)]) ∧
V.undef = V.undef ∧ (∃ x7, SoundAt C 9 ⟨[x5, (s 153)], fun _ => none⟩ ⟨x7, fun _ => none⟩ ∧ (∀ n, V.refs n x7 = false) ∧ quietV (looko ([5, 20, 24, 25].map fun n => (n, o n))) (x7 :: [x5, (s 153)]) ∧
V.undef = V.undef ∧ (demand (beqV true x4 x7) (fun x8 => quietV (looko ([5, 20, 24, 25].map fun n => (n, o n))) (x8 :: [x4, x7]) ∧
condK x8
 (Q .ret (St.mk (look [(10, (V.d (.bool false)))]) (looko ([].map fun n => (n, o n)))))
 (wpB C I R_c7 (St.mk (look [(2, (s 2)), (3, (s 3)), (5, (s 5)), (15, (s 15)), (20, (s 20)), (24, (s 24)), (25, (s 25)), (152, (s 152)), (153, (s 153))]) (looko ([5, 20, 24, 25].map fun n => (n, o n)))) (seqK (fun s => wpB C I R_l2 s Q) Q)))))))))))))
 (Q (.exit 4) (St.mk (look [(2, (s 2)), (3, (s 3)), (5, (s 5)), (15, (s 15)), (20, (s 20)), (24, (s 24)), (25, (s 25)), (152, (s 152)), (153, (s 153)), (154, x1)]) (looko ([5, 20, 24, 25].map fun n => (n, o n))))))) : wpB C I R_l2 (St.mk s o) Q := w_loopC hL h

theorem g_law17_BookBack_i69_sh {C : Ctx} {I : Nat → Prop} {s : Nat → V} {o : Nat → Option Ob} {K : St → Prop} : drawB C I g_law17_BookBack.a28 (41 :: []) .done (St.mk s o) K =
 ((s 10) = V.undef ∧ (quietV o ((s 204) :: [(s 204)]) ∧
treeB C I g_law17_BookBack.a28 .done (St.mk (upd s 10 (s 204)) o) K)) := rfl

theorem g_law17_BookBack_i68_sh {R_i69 : List Nat} {C : Ctx} {I : Nat → Prop} {s : Nat → V} {o : Nat → Option Ob} {K : St → Prop} : drawB C I g_law17_BookBack.a28 (40 :: R_i69) .done (St.mk s o) K =
 ((s 204) = V.undef ∧ (demand (pickV (s 202) (s 203) (V.d (.bool false))) (fun x1 => quietV o (x1 :: [(s 202), (s 203), (V.d (.bool false))]) ∧
drawB C I g_law17_BookBack.a28 R_i69 .done (St.mk (upd s 204 x1) o) K))) := rfl

theorem g_law17_BookBack_i67_sh {R_i68 : List Nat} {C : Ctx} {I : Nat → Prop} {s : Nat → V} {o : Nat → Option Ob} {K : St → Prop} : drawB C I g_law17_BookBack.a28 (39 :: R_i68) .done (St.mk s o) K =
 ((s 203) = V.undef ∧ guardK (s 202) true
 (∃ x1, SoundAt C 4 ⟨[], fun _ => none⟩ ⟨x1, fun _ => none⟩ ∧ (∀ n, V.refs n x1 = false) ∧ quietV o (x1 :: []) ∧
drawB C I g_law17_BookBack.a28 R_i68 .done (St.mk (upd s 203 x1) o) K)
 (quietV o ((V.tup []) :: []) ∧
drawB C I g_law17_BookBack.a28 R_i68 .done (St.mk (upd s 203 (V.tup [])) o) K)
 (quietV o ((V.tup []) :: []) ∧
drawB C I g_law17_BookBack.a28 R_i68 .done (St.mk (upd s 203 (V.tup [])) o) K)) := rfl

theorem g_law17_BookBack_i66_sh {R_i67 : List Nat} {C : Ctx} {I : Nat → Prop} {s : Nat → V} {o : Nat → Option Ob} {K : St → Prop} : drawB C I g_law17_BookBack.a28 (38 :: R_i67) .done (St.mk s o) K =
 ((s 202) = V.undef ∧ (quietV o ((s 201) :: [(s 201)]) ∧
drawB C I g_law17_BookBack.a28 R_i67 .done (St.mk (upd s 202 (s 201)) o) K)) := rfl

theorem g_law17_BookBack_i65_sh {R_i66 : List Nat} {C : Ctx} {I : Nat → Prop} {s : Nat → V} {o : Nat → Option Ob} {K : St → Prop} : drawB C I g_law17_BookBack.a28 (37 :: R_i66) .done (St.mk s o) K =
 ((s 201) = V.undef ∧ (demand (pickV (s 195) (s 200) (V.d (.bool false))) (fun x1 => quietV o (x1 :: [(s 195), (s 200), (V.d (.bool false))]) ∧
drawB C I g_law17_BookBack.a28 R_i66 .done (St.mk (upd s 201 x1) o) K))) := rfl

theorem g_law17_BookBack_i64_sh {R_i65 : List Nat} {C : Ctx} {I : Nat → Prop} {s : Nat → V} {o : Nat → Option Ob} {K : St → Prop} : drawB C I g_law17_BookBack.a28 (36 :: R_i65) .done (St.mk s o) K =
 ((s 200) = V.undef ∧ guardK (s 195) true
 (demand (unV UnOp.not (s 199)) (fun x1 => quietV o (x1 :: [(s 199)]) ∧
drawB C I g_law17_BookBack.a28 R_i65 .done (St.mk (upd s 200 x1) o) K))
 (quietV o ((V.tup []) :: [(s 199)]) ∧
drawB C I g_law17_BookBack.a28 R_i65 .done (St.mk (upd s 200 (V.tup [])) o) K)
 (quietV o ((V.tup []) :: [(s 199)]) ∧
drawB C I g_law17_BookBack.a28 R_i65 .done (St.mk (upd s 200 (V.tup [])) o) K)) := rfl

theorem g_law17_BookBack_i63_sh {R_i64 : List Nat} {C : Ctx} {I : Nat → Prop} {s : Nat → V} {o : Nat → Option Ob} {K : St → Prop} : drawB C I g_law17_BookBack.a28 (35 :: R_i64) .done (St.mk s o) K =
 ((s 199) = V.undef ∧ guardK (s 195) true
 (∃ x1, SoundAt C 9 ⟨[(s 196), (s 198)], fun _ => none⟩ ⟨x1, fun _ => none⟩ ∧ (∀ n, V.refs n x1 = false) ∧ quietV o (x1 :: [(s 196), (s 198)]) ∧
drawB C I g_law17_BookBack.a28 R_i64 .done (St.mk (upd s 199 x1) o) K)
 (quietV o ((V.tup []) :: [(s 196), (s 198)]) ∧
drawB C I g_law17_BookBack.a28 R_i64 .done (St.mk (upd s 199 (V.tup [])) o) K)
 (quietV o ((V.tup []) :: [(s 196), (s 198)]) ∧
drawB C I g_law17_BookBack.a28 R_i64 .done (St.mk (upd s 199 (V.tup [])) o) K)) := rfl

theorem g_law17_BookBack_i62_sh {R_i63 : List Nat} {C : Ctx} {I : Nat → Prop} {s : Nat → V} {o : Nat → Option Ob} {K : St → Prop} : drawB C I g_law17_BookBack.a28 (34 :: R_i63) .done (St.mk s o) K =
 ((s 198) = V.undef ∧ guardK (s 195) true
 (demand (binV BinOp.add (s 197) (V.d (.int .i64 1))) (fun x1 => quietV o (x1 :: [(s 197), (V.d (.int .i64 1))]) ∧
drawB C I g_law17_BookBack.a28 R_i63 .done (St.mk (upd s 198 x1) o) K))
 (quietV o ((V.tup []) :: [(s 197), (V.d (.int .i64 1))]) ∧
drawB C I g_law17_BookBack.a28 R_i63 .done (St.mk (upd s 198 (V.tup [])) o) K)
 (quietV o ((V.tup []) :: [(s 197), (V.d (.int .i64 1))]) ∧
drawB C I g_law17_BookBack.a28 R_i63 .done (St.mk (upd s 198 (V.tup [])) o) K)) := rfl

theorem g_law17_BookBack_i61_sh {R_i62 : List Nat} {C : Ctx} {I : Nat → Prop} {s : Nat → V} {o : Nat → Option Ob} {K : St → Prop} : drawB C I g_law17_BookBack.a28 (33 :: R_i62) .done (St.mk s o) K =
 ((s 197) = V.undef ∧ guardK (s 195) true
 (quietV o ((s 15) :: [(s 15)]) ∧
drawB C I g_law17_BookBack.a28 R_i62 .done (St.mk (upd s 197 (s 15)) o) K)
 (quietV o ((V.tup []) :: [(s 15)]) ∧
drawB C I g_law17_BookBack.a28 R_i62 .done (St.mk (upd s 197 (V.tup [])) o) K)
 (quietV o ((V.tup []) :: [(s 15)]) ∧
drawB C I g_law17_BookBack.a28 R_i62 .done (St.mk (upd s 197 (V.tup [])) o) K)) := rfl

theorem g_law17_BookBack_i60_sh {R_i61 : List Nat} {C : Ctx} {I : Nat → Prop} {s : Nat → V} {o : Nat → Option Ob} {K : St → Prop} : drawB C I g_law17_BookBack.a28 (32 :: R_i61) .done (St.mk s o) K =
 ((s 196) = V.undef ∧ guardK (s 195) true
 (demand (loadV o (some 1) (s 20)) (fun x1 => quietV o (x1 :: [(s 20)]) ∧
drawB C I g_law17_BookBack.a28 R_i61 .done (St.mk (upd s 196 x1) o) K))
 (quietV o ((V.tup []) :: [(s 20)]) ∧
drawB C I g_law17_BookBack.a28 R_i61 .done (St.mk (upd s 196 (V.tup [])) o) K)
 (quietV o ((V.tup []) :: [(s 20)]) ∧
drawB C I g_law17_BookBack.a28 R_i61 .done (St.mk (upd s 196 (V.tup [])) o) K)) := rfl

theorem g_law17_BookBack_i59_sh {R_i60 : List Nat} {C : Ctx} {I : Nat → Prop} {s : Nat → V} {o : Nat → Option Ob} {K : St → Prop} : drawB C I g_law17_BookBack.a28 (31 :: R_i60) .done (St.mk s o) K =
 ((s 195) = V.undef ∧ (quietV o ((s 194) :: [(s 194)]) ∧
drawB C I g_law17_BookBack.a28 R_i60 .done (St.mk (upd s 195 (s 194)) o) K)) := rfl

theorem g_law17_BookBack_i58_sh {R_i59 : List Nat} {C : Ctx} {I : Nat → Prop} {s : Nat → V} {o : Nat → Option Ob} {K : St → Prop} : drawB C I g_law17_BookBack.a28 (30 :: R_i59) .done (St.mk s o) K =
 ((s 194) = V.undef ∧ (demand (pickV (s 189) (s 193) (V.d (.bool false))) (fun x1 => quietV o (x1 :: [(s 189), (s 193), (V.d (.bool false))]) ∧
drawB C I g_law17_BookBack.a28 R_i59 .done (St.mk (upd s 194 x1) o) K))) := rfl

theorem g_law17_BookBack_i57_sh {R_i58 : List Nat} {C : Ctx} {I : Nat → Prop} {s : Nat → V} {o : Nat → Option Ob} {K : St → Prop} : drawB C I g_law17_BookBack.a28 (29 :: R_i58) .done (St.mk s o) K =
 ((s 193) = V.undef ∧ guardK (s 189) true
 (demand (unV UnOp.not (s 192)) (fun x1 => quietV o (x1 :: [(s 192)]) ∧
drawB C I g_law17_BookBack.a28 R_i58 .done (St.mk (upd s 193 x1) o) K))
 (quietV o ((V.tup []) :: [(s 192)]) ∧
drawB C I g_law17_BookBack.a28 R_i58 .done (St.mk (upd s 193 (V.tup [])) o) K)
 (quietV o ((V.tup []) :: [(s 192)]) ∧
drawB C I g_law17_BookBack.a28 R_i58 .done (St.mk (upd s 193 (V.tup [])) o) K)) := rfl

theorem g_law17_BookBack_i56_sh {R_i57 : List Nat} {C : Ctx} {I : Nat → Prop} {s : Nat → V} {o : Nat → Option Ob} {K : St → Prop} : drawB C I g_law17_BookBack.a28 (28 :: R_i57) .done (St.mk s o) K =
 ((s 192) = V.undef ∧ guardK (s 189) true
 (∃ x1, SoundAt C 9 ⟨[(s 190), (s 191)], fun _ => none⟩ ⟨x1, fun _ => none⟩ ∧ (∀ n, V.refs n x1 = false) ∧ quietV o (x1 :: [(s 190), (s 191)]) ∧
drawB C I g_law17_BookBack.a28 R_i57 .done (St.mk (upd s 192 x1) o) K)
 (quietV o ((V.tup []) :: [(s 190), (s 191)]) ∧
drawB C I g_law17_BookBack.a28 R_i57 .done (St.mk (upd s 192 (V.tup [])) o) K)
 (quietV o ((V.tup []) :: [(s 190), (s 191)]) ∧
drawB C I g_law17_BookBack.a28 R_i57 .done (St.mk (upd s 192 (V.tup [])) o) K)) := rfl

theorem g_law17_BookBack_i55_sh {R_i56 : List Nat} {C : Ctx} {I : Nat → Prop} {s : Nat → V} {o : Nat → Option Ob} {K : St → Prop} : drawB C I g_law17_BookBack.a28 (27 :: R_i56) .done (St.mk s o) K =
 ((s 191) = V.undef ∧ guardK (s 189) true
 (quietV o ((s 15) :: [(s 15)]) ∧
drawB C I g_law17_BookBack.a28 R_i56 .done (St.mk (upd s 191 (s 15)) o) K)
 (quietV o ((V.tup []) :: [(s 15)]) ∧
drawB C I g_law17_BookBack.a28 R_i56 .done (St.mk (upd s 191 (V.tup [])) o) K)
 (quietV o ((V.tup []) :: [(s 15)]) ∧
drawB C I g_law17_BookBack.a28 R_i56 .done (St.mk (upd s 191 (V.tup [])) o) K)) := rfl

theorem g_law17_BookBack_i54_sh {R_i55 : List Nat} {C : Ctx} {I : Nat → Prop} {s : Nat → V} {o : Nat → Option Ob} {K : St → Prop} : drawB C I g_law17_BookBack.a28 (26 :: R_i55) .done (St.mk s o) K =
 ((s 190) = V.undef ∧ guardK (s 189) true
 (demand (loadV o (some 1) (s 20)) (fun x1 => quietV o (x1 :: [(s 20)]) ∧
drawB C I g_law17_BookBack.a28 R_i55 .done (St.mk (upd s 190 x1) o) K))
 (quietV o ((V.tup []) :: [(s 20)]) ∧
drawB C I g_law17_BookBack.a28 R_i55 .done (St.mk (upd s 190 (V.tup [])) o) K)
 (quietV o ((V.tup []) :: [(s 20)]) ∧
drawB C I g_law17_BookBack.a28 R_i55 .done (St.mk (upd s 190 (V.tup [])) o) K)) := rfl

theorem g_law17_BookBack_i53_sh {R_i54 : List Nat} {C : Ctx} {I : Nat → Prop} {s : Nat → V} {o : Nat → Option Ob} {K : St → Prop} : drawB C I g_law17_BookBack.a28 (25 :: R_i54) .done (St.mk s o) K =
 ((s 189) = V.undef ∧ (quietV o ((s 188) :: [(s 188)]) ∧
drawB C I g_law17_BookBack.a28 R_i54 .done (St.mk (upd s 189 (s 188)) o) K)) := rfl

theorem g_law17_BookBack_i52_sh {R_i53 : List Nat} {C : Ctx} {I : Nat → Prop} {s : Nat → V} {o : Nat → Option Ob} {K : St → Prop} : drawB C I g_law17_BookBack.a28 (24 :: R_i53) .done (St.mk s o) K =
 ((s 188) = V.undef ∧ (demand (pickV (s 178) (s 187) (V.d (.bool false))) (fun x1 => quietV o (x1 :: [(s 178), (s 187), (V.d (.bool false))]) ∧
drawB C I g_law17_BookBack.a28 R_i53 .done (St.mk (upd s 188 x1) o) K))) := rfl

theorem g_law17_BookBack_i51_sh {R_i52 : List Nat} {C : Ctx} {I : Nat → Prop} {s : Nat → V} {o : Nat → Option Ob} {K : St → Prop} : drawB C I g_law17_BookBack.a28 (23 :: R_i52) .done (St.mk s o) K =
 ((s 187) = V.undef ∧ guardK (s 178) true
 (demand (binV BinOp.eql (s 182) (s 186)) (fun x1 => quietV o (x1 :: [(s 182), (s 186)]) ∧
drawB C I g_law17_BookBack.a28 R_i52 .done (St.mk (upd s 187 x1) o) K))
 (quietV o ((V.tup []) :: [(s 182), (s 186)]) ∧
drawB C I g_law17_BookBack.a28 R_i52 .done (St.mk (upd s 187 (V.tup [])) o) K)
 (quietV o ((V.tup []) :: [(s 182), (s 186)]) ∧
drawB C I g_law17_BookBack.a28 R_i52 .done (St.mk (upd s 187 (V.tup [])) o) K)) := rfl

theorem g_law17_BookBack_i50_sh {R_i51 : List Nat} {C : Ctx} {I : Nat → Prop} {s : Nat → V} {o : Nat → Option Ob} {K : St → Prop} : drawB C I g_law17_BookBack.a28 (22 :: R_i51) .done (St.mk s o) K =
 ((s 186) = V.undef ∧ guardK (s 178) true
 (∃ x1, SoundAt C 8 ⟨[(s 183), (s 184), (s 185)], fun _ => none⟩ ⟨x1, fun _ => none⟩ ∧ (∀ n, V.refs n x1 = false) ∧ quietV o (x1 :: [(s 183), (s 184), (s 185)]) ∧
drawB C I g_law17_BookBack.a28 R_i51 .done (St.mk (upd s 186 x1) o) K)
 (quietV o ((V.tup []) :: [(s 183), (s 184), (s 185)]) ∧
drawB C I g_law17_BookBack.a28 R_i51 .done (St.mk (upd s 186 (V.tup [])) o) K)
 (quietV o ((V.tup []) :: [(s 183), (s 184), (s 185)]) ∧
drawB C I g_law17_BookBack.a28 R_i51 .done (St.mk (upd s 186 (V.tup [])) o) K)) := rfl

theorem g_law17_BookBack_i49_sh {R_i50 : List Nat} {C : Ctx} {I : Nat → Prop} {s : Nat → V} {o : Nat → Option Ob} {K : St → Prop} : drawB C I g_law17_BookBack.a28 (21 :: R_i50) .done (St.mk s o) K =
 ((s 185) = V.undef ∧ guardK (s 178) true
 (quietV o ((s 3) :: [(s 3)]) ∧
drawB C I g_law17_BookBack.a28 R_i50 .done (St.mk (upd s 185 (s 3)) o) K)
 (quietV o ((V.tup []) :: [(s 3)]) ∧
drawB C I g_law17_BookBack.a28 R_i50 .done (St.mk (upd s 185 (V.tup [])) o) K)
 (quietV o ((V.tup []) :: [(s 3)]) ∧
drawB C I g_law17_BookBack.a28 R_i50 .done (St.mk (upd s 185 (V.tup [])) o) K)) := rfl

theorem g_law17_BookBack_i48_sh {R_i49 : List Nat} {C : Ctx} {I : Nat → Prop} {s : Nat → V} {o : Nat → Option Ob} {K : St → Prop} : drawB C I g_law17_BookBack.a28 (20 :: R_i49) .done (St.mk s o) K =
 ((s 184) = V.undef ∧ guardK (s 178) true
 (quietV o ((s 2) :: [(s 2)]) ∧
drawB C I g_law17_BookBack.a28 R_i49 .done (St.mk (upd s 184 (s 2)) o) K)
 (quietV o ((V.tup []) :: [(s 2)]) ∧
drawB C I g_law17_BookBack.a28 R_i49 .done (St.mk (upd s 184 (V.tup [])) o) K)
 (quietV o ((V.tup []) :: [(s 2)]) ∧
drawB C I g_law17_BookBack.a28 R_i49 .done (St.mk (upd s 184 (V.tup [])) o) K)) := rfl

theorem g_law17_BookBack_i47_sh {R_i48 : List Nat} {C : Ctx} {I : Nat → Prop} {s : Nat → V} {o : Nat → Option Ob} {K : St → Prop} : drawB C I g_law17_BookBack.a28 (19 :: R_i48) .done (St.mk s o) K =
 ((s 183) = V.undef ∧ guardK (s 178) true
 (demand (loadV o (some 1) (s 20)) (fun x1 => quietV o (x1 :: [(s 20)]) ∧
drawB C I g_law17_BookBack.a28 R_i48 .done (St.mk (upd s 183 x1) o) K))
 (quietV o ((V.tup []) :: [(s 20)]) ∧
drawB C I g_law17_BookBack.a28 R_i48 .done (St.mk (upd s 183 (V.tup [])) o) K)
 (quietV o ((V.tup []) :: [(s 20)]) ∧
drawB C I g_law17_BookBack.a28 R_i48 .done (St.mk (upd s 183 (V.tup [])) o) K)) := rfl

theorem g_law17_BookBack_i46_sh {R_i47 : List Nat} {C : Ctx} {I : Nat → Prop} {s : Nat → V} {o : Nat → Option Ob} {K : St → Prop} : drawB C I g_law17_BookBack.a28 (18 :: R_i47) .done (St.mk s o) K =
 ((s 182) = V.undef ∧ guardK (s 178) true
 (∃ x1, SoundAt C 8 ⟨[(s 179), (s 180), (s 181)], fun _ => none⟩ ⟨x1, fun _ => none⟩ ∧ (∀ n, V.refs n x1 = false) ∧ quietV o (x1 :: [(s 179), (s 180), (s 181)]) ∧
drawB C I g_law17_BookBack.a28 R_i47 .done (St.mk (upd s 182 x1) o) K)
 (quietV o ((V.tup []) :: [(s 179), (s 180), (s 181)]) ∧
drawB C I g_law17_BookBack.a28 R_i47 .done (St.mk (upd s 182 (V.tup [])) o) K)
 (quietV o ((V.tup []) :: [(s 179), (s 180), (s 181)]) ∧
drawB C I g_law17_BookBack.a28 R_i47 .done (St.mk (upd s 182 (V.tup [])) o) K)) := rfl

theorem g_law17_BookBack_i45_sh {R_i46 : List Nat} {C : Ctx} {I : Nat → Prop} {s : Nat → V} {o : Nat → Option Ob} {K : St → Prop} : drawB C I g_law17_BookBack.a28 (17 :: R_i46) .done (St.mk s o) K =
 ((s 181) = V.undef ∧ guardK (s 178) true
 (quietV o ((s 3) :: [(s 3)]) ∧
drawB C I g_law17_BookBack.a28 R_i46 .done (St.mk (upd s 181 (s 3)) o) K)
 (quietV o ((V.tup []) :: [(s 3)]) ∧
drawB C I g_law17_BookBack.a28 R_i46 .done (St.mk (upd s 181 (V.tup [])) o) K)
 (quietV o ((V.tup []) :: [(s 3)]) ∧
drawB C I g_law17_BookBack.a28 R_i46 .done (St.mk (upd s 181 (V.tup [])) o) K)) := rfl

theorem g_law17_BookBack_i44_sh {R_i45 : List Nat} {C : Ctx} {I : Nat → Prop} {s : Nat → V} {o : Nat → Option Ob} {K : St → Prop} : drawB C I g_law17_BookBack.a28 (16 :: R_i45) .done (St.mk s o) K =
 ((s 180) = V.undef ∧ guardK (s 178) true
 (quietV o ((s 2) :: [(s 2)]) ∧
drawB C I g_law17_BookBack.a28 R_i45 .done (St.mk (upd s 180 (s 2)) o) K)
 (quietV o ((V.tup []) :: [(s 2)]) ∧
drawB C I g_law17_BookBack.a28 R_i45 .done (St.mk (upd s 180 (V.tup [])) o) K)
 (quietV o ((V.tup []) :: [(s 2)]) ∧
drawB C I g_law17_BookBack.a28 R_i45 .done (St.mk (upd s 180 (V.tup [])) o) K)) := rfl

theorem g_law17_BookBack_i43_sh {R_i44 : List Nat} {C : Ctx} {I : Nat → Prop} {s : Nat → V} {o : Nat → Option Ob} {K : St → Prop} : drawB C I g_law17_BookBack.a28 (15 :: R_i44) .done (St.mk s o) K =
 ((s 179) = V.undef ∧ guardK (s 178) true
 (demand (loadV o (some 1) (s 5)) (fun x1 => quietV o (x1 :: [(s 5)]) ∧
drawB C I g_law17_BookBack.a28 R_i44 .done (St.mk (upd s 179 x1) o) K))
 (quietV o ((V.tup []) :: [(s 5)]) ∧
drawB C I g_law17_BookBack.a28 R_i44 .done (St.mk (upd s 179 (V.tup [])) o) K)
 (quietV o ((V.tup []) :: [(s 5)]) ∧
drawB C I g_law17_BookBack.a28 R_i44 .done (St.mk (upd s 179 (V.tup [])) o) K)) := rfl

theorem g_law17_BookBack_i42_sh {R_i43 : List Nat} {C : Ctx} {I : Nat → Prop} {s : Nat → V} {o : Nat → Option Ob} {K : St → Prop} : drawB C I g_law17_BookBack.a28 (14 :: R_i43) .done (St.mk s o) K =
 ((s 178) = V.undef ∧ (quietV o ((s 177) :: [(s 177)]) ∧
drawB C I g_law17_BookBack.a28 R_i43 .done (St.mk (upd s 178 (s 177)) o) K)) := rfl

theorem g_law17_BookBack_i41_sh {R_i42 : List Nat} {C : Ctx} {I : Nat → Prop} {s : Nat → V} {o : Nat → Option Ob} {K : St → Prop} : drawB C I g_law17_BookBack.a28 (13 :: R_i42) .done (St.mk s o) K =
 ((s 177) = V.undef ∧ (demand (pickV (s 167) (s 176) (V.d (.bool false))) (fun x1 => quietV o (x1 :: [(s 167), (s 176), (V.d (.bool false))]) ∧
drawB C I g_law17_BookBack.a28 R_i42 .done (St.mk (upd s 177 x1) o) K))) := rfl

theorem g_law17_BookBack_i40_sh {R_i41 : List Nat} {C : Ctx} {I : Nat → Prop} {s : Nat → V} {o : Nat → Option Ob} {K : St → Prop} : drawB C I g_law17_BookBack.a28 (12 :: R_i41) .done (St.mk s o) K =
 ((s 176) = V.undef ∧ guardK (s 167) true
 (demand (eqsV false [0, 0, 0] (s 171) (s 175)) (fun x1 => quietV o (x1 :: [(s 171), (s 175)]) ∧
drawB C I g_law17_BookBack.a28 R_i41 .done (St.mk (upd s 176 x1) o) K))
 (quietV o ((V.tup []) :: [(s 171), (s 175)]) ∧
drawB C I g_law17_BookBack.a28 R_i41 .done (St.mk (upd s 176 (V.tup [])) o) K)
 (quietV o ((V.tup []) :: [(s 171), (s 175)]) ∧
drawB C I g_law17_BookBack.a28 R_i41 .done (St.mk (upd s 176 (V.tup [])) o) K)) := rfl

theorem g_law17_BookBack_i39_sh {R_i40 : List Nat} {C : Ctx} {I : Nat → Prop} {s : Nat → V} {o : Nat → Option Ob} {K : St → Prop} : drawB C I g_law17_BookBack.a28 (11 :: R_i40) .done (St.mk s o) K =
 ((s 175) = V.undef ∧ guardK (s 167) true
 (∃ x1, SoundAt C 28 ⟨[(s 172), (s 173), (s 174)], fun _ => none⟩ ⟨x1, fun _ => none⟩ ∧ (∀ n, V.refs n x1 = false) ∧ quietV o (x1 :: [(s 172), (s 173), (s 174)]) ∧
drawB C I g_law17_BookBack.a28 R_i40 .done (St.mk (upd s 175 x1) o) K)
 (quietV o ((V.tup []) :: [(s 172), (s 173), (s 174)]) ∧
drawB C I g_law17_BookBack.a28 R_i40 .done (St.mk (upd s 175 (V.tup [])) o) K)
 (quietV o ((V.tup []) :: [(s 172), (s 173), (s 174)]) ∧
drawB C I g_law17_BookBack.a28 R_i40 .done (St.mk (upd s 175 (V.tup [])) o) K)) := rfl

theorem g_law17_BookBack_i38_sh {R_i39 : List Nat} {C : Ctx} {I : Nat → Prop} {s : Nat → V} {o : Nat → Option Ob} {K : St → Prop} : drawB C I g_law17_BookBack.a28 (10 :: R_i39) .done (St.mk s o) K =
 ((s 174) = V.undef ∧ guardK (s 167) true
 (quietV o ((s 3) :: [(s 3)]) ∧
drawB C I g_law17_BookBack.a28 R_i39 .done (St.mk (upd s 174 (s 3)) o) K)
 (quietV o ((V.tup []) :: [(s 3)]) ∧
drawB C I g_law17_BookBack.a28 R_i39 .done (St.mk (upd s 174 (V.tup [])) o) K)
 (quietV o ((V.tup []) :: [(s 3)]) ∧
drawB C I g_law17_BookBack.a28 R_i39 .done (St.mk (upd s 174 (V.tup [])) o) K)) := rfl

theorem g_law17_BookBack_i37_sh {R_i38 : List Nat} {C : Ctx} {I : Nat → Prop} {s : Nat → V} {o : Nat → Option Ob} {K : St → Prop} : drawB C I g_law17_BookBack.a28 (9 :: R_i38) .done (St.mk s o) K =
 ((s 173) = V.undef ∧ guardK (s 167) true
 (quietV o ((s 2) :: [(s 2)]) ∧
drawB C I g_law17_BookBack.a28 R_i38 .done (St.mk (upd s 173 (s 2)) o) K)
 (quietV o ((V.tup []) :: [(s 2)]) ∧
drawB C I g_law17_BookBack.a28 R_i38 .done (St.mk (upd s 173 (V.tup [])) o) K)
 (quietV o ((V.tup []) :: [(s 2)]) ∧
drawB C I g_law17_BookBack.a28 R_i38 .done (St.mk (upd s 173 (V.tup [])) o) K)) := rfl

theorem g_law17_BookBack_i36_sh {R_i37 : List Nat} {C : Ctx} {I : Nat → Prop} {s : Nat → V} {o : Nat → Option Ob} {K : St → Prop} : drawB C I g_law17_BookBack.a28 (8 :: R_i37) .done (St.mk s o) K =
 ((s 172) = V.undef ∧ guardK (s 167) true
 (demand (loadV o (some 1) (s 20)) (fun x1 => quietV o (x1 :: [(s 20)]) ∧
drawB C I g_law17_BookBack.a28 R_i37 .done (St.mk (upd s 172 x1) o) K))
 (quietV o ((V.tup []) :: [(s 20)]) ∧
drawB C I g_law17_BookBack.a28 R_i37 .done (St.mk (upd s 172 (V.tup [])) o) K)
 (quietV o ((V.tup []) :: [(s 20)]) ∧
drawB C I g_law17_BookBack.a28 R_i37 .done (St.mk (upd s 172 (V.tup [])) o) K)) := rfl

theorem g_law17_BookBack_i35_sh {R_i36 : List Nat} {C : Ctx} {I : Nat → Prop} {s : Nat → V} {o : Nat → Option Ob} {K : St → Prop} : drawB C I g_law17_BookBack.a28 (7 :: R_i36) .done (St.mk s o) K =
 ((s 171) = V.undef ∧ guardK (s 167) true
 (∃ x1, SoundAt C 28 ⟨[(s 168), (s 169), (s 170)], fun _ => none⟩ ⟨x1, fun _ => none⟩ ∧ (∀ n, V.refs n x1 = false) ∧ quietV o (x1 :: [(s 168), (s 169), (s 170)]) ∧
drawB C I g_law17_BookBack.a28 R_i36 .done (St.mk (upd s 171 x1) o) K)
 (quietV o ((V.tup []) :: [(s 168), (s 169), (s 170)]) ∧
drawB C I g_law17_BookBack.a28 R_i36 .done (St.mk (upd s 171 (V.tup [])) o) K)
 (quietV o ((V.tup []) :: [(s 168), (s 169), (s 170)]) ∧
drawB C I g_law17_BookBack.a28 R_i36 .done (St.mk (upd s 171 (V.tup [])) o) K)) := rfl

theorem g_law17_BookBack_i34_sh {R_i35 : List Nat} {C : Ctx} {I : Nat → Prop} {s : Nat → V} {o : Nat → Option Ob} {K : St → Prop} : drawB C I g_law17_BookBack.a28 (6 :: R_i35) .done (St.mk s o) K =
 ((s 170) = V.undef ∧ guardK (s 167) true
 (quietV o ((s 3) :: [(s 3)]) ∧
drawB C I g_law17_BookBack.a28 R_i35 .done (St.mk (upd s 170 (s 3)) o) K)
 (quietV o ((V.tup []) :: [(s 3)]) ∧
drawB C I g_law17_BookBack.a28 R_i35 .done (St.mk (upd s 170 (V.tup [])) o) K)
 (quietV o ((V.tup []) :: [(s 3)]) ∧
drawB C I g_law17_BookBack.a28 R_i35 .done (St.mk (upd s 170 (V.tup [])) o) K)) := rfl

theorem g_law17_BookBack_i33_sh {R_i34 : List Nat} {C : Ctx} {I : Nat → Prop} {s : Nat → V} {o : Nat → Option Ob} {K : St → Prop} : drawB C I g_law17_BookBack.a28 (5 :: R_i34) .done (St.mk s o) K =
 ((s 169) = V.undef ∧ guardK (s 167) true
 (quietV o ((s 2) :: [(s 2)]) ∧
drawB C I g_law17_BookBack.a28 R_i34 .done (St.mk (upd s 169 (s 2)) o) K)
 (quietV o ((V.tup []) :: [(s 2)]) ∧
drawB C I g_law17_BookBack.a28 R_i34 .done (St.mk (upd s 169 (V.tup [])) o) K)
 (quietV o ((V.tup []) :: [(s 2)]) ∧
drawB C I g_law17_BookBack.a28 R_i34 .done (St.mk (upd s 169 (V.tup [])) o) K)) := rfl

theorem g_law17_BookBack_i32_sh {R_i33 : List Nat} {C : Ctx} {I : Nat → Prop} {s : Nat → V} {o : Nat → Option Ob} {K : St → Prop} : drawB C I g_law17_BookBack.a28 (4 :: R_i33) .done (St.mk s o) K =
 ((s 168) = V.undef ∧ guardK (s 167) true
 (demand (loadV o (some 1) (s 5)) (fun x1 => quietV o (x1 :: [(s 5)]) ∧
drawB C I g_law17_BookBack.a28 R_i33 .done (St.mk (upd s 168 x1) o) K))
 (quietV o ((V.tup []) :: [(s 5)]) ∧
drawB C I g_law17_BookBack.a28 R_i33 .done (St.mk (upd s 168 (V.tup [])) o) K)
 (quietV o ((V.tup []) :: [(s 5)]) ∧
drawB C I g_law17_BookBack.a28 R_i33 .done (St.mk (upd s 168 (V.tup [])) o) K)) := rfl

theorem g_law17_BookBack_i31_sh {R_i32 : List Nat} {C : Ctx} {I : Nat → Prop} {s : Nat → V} {o : Nat → Option Ob} {K : St → Prop} : drawB C I g_law17_BookBack.a28 (3 :: R_i32) .done (St.mk s o) K =
 ((s 167) = V.undef ∧ (quietV o ((s 166) :: [(s 166)]) ∧
drawB C I g_law17_BookBack.a28 R_i32 .done (St.mk (upd s 167 (s 166)) o) K)) := rfl

theorem g_law17_BookBack_i30_sh {R_i31 : List Nat} {C : Ctx} {I : Nat → Prop} {s : Nat → V} {o : Nat → Option Ob} {K : St → Prop} : drawB C I g_law17_BookBack.a28 (2 :: R_i31) .done (St.mk s o) K =
 ((s 166) = V.undef ∧ (∃ x1, SoundAt C 27 ⟨[(s 164), (s 165)], fun _ => none⟩ ⟨x1, fun _ => none⟩ ∧ (∀ n, V.refs n x1 = false) ∧ quietV o (x1 :: [(s 164), (s 165)]) ∧
drawB C I g_law17_BookBack.a28 R_i31 .done (St.mk (upd s 166 x1) o) K)) := rfl

theorem g_law17_BookBack_i29_sh {R_i30 : List Nat} {C : Ctx} {I : Nat → Prop} {s : Nat → V} {o : Nat → Option Ob} {K : St → Prop} : drawB C I g_law17_BookBack.a28 (1 :: R_i30) .done (St.mk s o) K =
 ((s 165) = V.undef ∧ (demand (loadV o (some 5) (s 25)) (fun x1 => quietV o (x1 :: [(s 25)]) ∧
drawB C I g_law17_BookBack.a28 R_i30 .done (St.mk (upd s 165 x1) o) K))) := rfl

theorem g_law17_BookBack_c8_sh {C : Ctx} {I : Nat → Prop} {s : Nat → V} {o : Nat → Option Ob} {Q : Ex → St → Prop} : wpB C I (.ret) (St.mk s o) Q =
 (Q .ret (St.mk s o)) := rfl

theorem g_law17_BookBack_c9_sh {R_i29 : List Nat} {R_c8 : ACode} {C : Ctx} {I : Nat → Prop} {s : Nat → V} {o : Nat → Option Ob} {Q : Ex → St → Prop} : wpB C I (.seq (.region [10] (some []) (some (0 :: R_i29, .done)) g_law17_BookBack.a28)
 (R_c8)) (St.mk s o) Q =
 ((s 164) = V.undef ∧ (demand (loadV o (some 5) (s 24)) (fun x1 => quietV o (x1 :: [(s 24)]) ∧
drawB C I g_law17_BookBack.a28 R_i29 .done (St.mk (upd s 164 x1) o) (fun st => (seqK (fun st => wpB C I R_c8 st Q) Q) .normal (St.trim st [10] (some [])))))) := rfl

theorem g_law17_BookBack_c10_sh {R_l2 : ACode} {R_c9 : ACode} {C : Ctx} {I : Nat → Prop} {s : Nat → V} {o : Nat → Option Ob} {Q : Ex → St → Prop} : wpB C I (.seq (.seq (.region [2, 3, 5, 15, 20, 24, 25, 152, 153] (some [5, 20, 24, 25]) none
     [⟨some 152, .mv (.t 15), [], [], none, none⟩,
      ⟨some 153, .mv (.c (.d (.int .i64 0))), [], [], none, none⟩])
  (.block 4 [2, 3, 5, 15, 20, 24, 25] (some [5, 20, 24, 25]) (R_l2)))
 (R_c9)) (St.mk s o) Q =
 (wpB C I R_l2 (St.mk (look [(2, (s 2)), (3, (s 3)), (5, (s 5)), (15, (s 15)), (20, (s 20)), (24, (s 24)), (25, (s 25)), (152, (s 15)), (153, (V.d (.int .i64 0)))]) (looko ([5, 20, 24, 25].map fun n => (n, o n)))) (blockK 4 [2, 3, 5, 15, 20, 24, 25] (some [5, 20, 24, 25]) (seqK (fun st => wpB C I R_c9 st Q) Q))) := rfl

theorem g_law17_BookBack_c11_sh {R_l1 : ACode} {R_c10 : ACode} {C : Ctx} {I : Nat → Prop} {s : Nat → V} {o : Nat → Option Ob} {Q : Ex → St → Prop} : wpB C I (.seq (.seq (.region [2, 3, 5, 15, 20, 24, 25, 26, 27, 138, 139] (some [5, 20, 24, 25]) none
     [⟨some 137, .mv (.t 26), [], [], none, none⟩,
      ⟨some 138, .len (.t 137), [], [], none, none⟩,
      ⟨some 139, .mv (.c (.d (.int .i64 0))), [], [], none, none⟩])
  (.block 2 [2, 3, 5, 15, 20, 24, 25] (some [5, 20, 24, 25]) (R_l1)))
 (R_c10)) (St.mk s o) Q =
 (demand (lenV o (s 26)) (fun x1 =>
wpB C I R_l1 (St.mk (look [(2, (s 2)), (3, (s 3)), (5, (s 5)), (15, (s 15)), (20, (s 20)), (24, (s 24)), (25, (s 25)), (26, (s 26)), (27, (s 27)), (138, x1), (139, (V.d (.int .i64 0)))]) (looko ([5, 20, 24, 25].map fun n => (n, o n)))) (blockK 2 [2, 3, 5, 15, 20, 24, 25] (some [5, 20, 24, 25]) (seqK (fun st => wpB C I R_c10 st Q) Q)))) := rfl

theorem g_law17_BookBack_c12_sh {R_o22 : List AOper} {R_c5 : ACode} {R_c11 : ACode} {C : Ctx} {I : Nat → Prop} {s : Nat → V} {o : Nat → Option Ob} {Q : Ex → St → Prop} : wpB C I (.seq (.seq (.region [2, 3, 5, 15, 20, 24, 25, 26, 27, 136] (some [5, 20, 24, 25]) none
     (⟨some 116, .mv (.t 21), [], [], none, none⟩ ::
      ⟨some 117, .bin .neq (.t 116) (.c (.d (.int .i64 0))), [], [], none, none⟩ ::
      ⟨some 118, .mv (.t 117), [], [], none, (some ([2, 3, 5, 15, 20, 23, 24, 25, 26, 27, 118], (some [5, 20, 24, 25])))⟩ ::
      R_o22))
  (R_c5))
 (R_c11)) (St.mk s o) Q =
 (demand (binV BinOp.neq (s 21) (V.d (.int .i64 0))) (fun x1 =>
opsB C I R_o22 (St.mk (look [(2, (s 2)), (3, (s 3)), (5, (s 5)), (15, (s 15)), (20, (s 20)), (23, (s 23)), (24, (s 24)), (25, (s 25)), (26, (s 26)), (27, (s 27)), (118, x1)]) (looko ([5, 20, 24, 25].map fun n => (n, o n)))) (fun st => (seqK (fun st => wpB C I R_c5 st (seqK (fun st => wpB C I R_c11 st Q) Q)) (seqK (fun st => wpB C I R_c11 st Q) Q)) .normal (St.trim st [2, 3, 5, 15, 20, 24, 25, 26, 27, 136] (some [5, 20, 24, 25]))))) := rfl

theorem g_law17_BookBack_c13_sh {R_c12 : ACode} {C : Ctx} {I : Nat → Prop} {s : Nat → V} {o : Nat → Option Ob} {Q : Ex → St → Prop} : wpB C I (.seq (.region [2, 3, 5, 15, 20, 21, 23, 24, 25, 26, 27] (some [5, 20, 24, 25]) (some ([0, 1, 2, 3, 4, 5, 6, 7, 8, 9], .done))
    [⟨some 108, .load (some 1) (.t 5), [], [], none, none⟩,
     ⟨some 109, .mv (.t 2), [], [], none, none⟩,
     ⟨some 110, .mv (.t 4), [], [], none, none⟩,
     ⟨some 111, .call 26 [(.t 108), (.t 109), (.t 110)], [], [0, 1, 2], none, none⟩,
     ⟨some 112, .load (some 1) (.t 20), [], [], none, none⟩,
     ⟨some 113, .mv (.t 2), [], [], none, none⟩,
     ⟨some 114, .mv (.t 4), [], [], none, none⟩,
     ⟨some 115, .call 26 [(.t 112), (.t 113), (.t 114)], [], [4, 5, 6, 3], none, none⟩,
     ⟨some 26, .mv (.t 111), [], [3, 7, 0, 1, 2, 3], none, none⟩,
     ⟨some 27, .mv (.t 115), [], [7, 8, 0, 1, 2, 3, 4, 5, 6, 7, 8], none, none⟩])
 (R_c12)) (St.mk s o) Q =
 ((s 108) = V.undef ∧ (demand (loadV o (some 1) (s 5)) (fun x1 => quietV o (x1 :: [(s 5)]) ∧
(s 109) = V.undef ∧ (quietV o ((s 2) :: [(s 2)]) ∧
(s 110) = V.undef ∧ (quietV o ((s 4) :: [(s 4)]) ∧
(s 111) = V.undef ∧ (∃ x4, SoundAt C 26 ⟨[x1, (s 2), (s 4)], fun _ => none⟩ ⟨x4, fun _ => none⟩ ∧ (∀ n, V.refs n x4 = false) ∧ quietV o (x4 :: [x1, (s 2), (s 4)]) ∧
(s 112) = V.undef ∧ (demand (loadV o (some 1) (s 20)) (fun x5 => quietV o (x5 :: [(s 20)]) ∧
(s 113) = V.undef ∧ (quietV o ((s 2) :: [(s 2)]) ∧
(s 114) = V.undef ∧ (quietV o ((s 4) :: [(s 4)]) ∧
(s 115) = V.undef ∧ (∃ x8, SoundAt C 26 ⟨[x5, (s 2), (s 4)], fun _ => none⟩ ⟨x8, fun _ => none⟩ ∧ (∀ n, V.refs n x8 = false) ∧ quietV o (x8 :: [x5, (s 2), (s 4)]) ∧
(s 26) = V.undef ∧ (quietV o (x4 :: [x4]) ∧
(s 27) = V.undef ∧ (quietV o (x8 :: [x8]) ∧
wpB C I R_c12 (St.mk (look [(2, (s 2)), (3, (s 3)), (5, (s 5)), (15, (s 15)), (20, (s 20)), (21, (s 21)), (23, (s 23)), (24, (s 24)), (25, (s 25)), (26, x4), (27, x8)]) (looko ([5, 20, 24, 25].map fun n => (n, o n)))) Q))))))))))))) := rfl

theorem g_law17_BookBack_c14_sh {R_i7 : List Nat} {R_t21 : Tr} {R_c13 : ACode} {C : Ctx} {I : Nat → Prop} {s : Nat → V} {o : Nat → Option Ob} {Q : Ex → St → Prop} : wpB C I (.seq (.region [2, 3, 4, 5, 15, 20, 21, 23, 24, 25] (some [5, 20, 24, 25]) (some (0 :: R_i7, R_t21)) g_law17_BookBack.a6)
 (R_c13)) (St.mk s o) Q =
 ((s 98) = V.undef ∧ (demand (loadV o (some 1) (s 5)) (fun x1 => quietV o (x1 :: [(s 5)]) ∧
drawB C I g_law17_BookBack.a6 R_i7 R_t21 (St.mk (upd s 98 x1) o) (fun st => (seqK (fun st => wpB C I R_c13 st Q) Q) .normal (St.trim st [2, 3, 4, 5, 15, 20, 21, 23, 24, 25] (some [5, 20, 24, 25])))))) := rfl

theorem g_law17_BookBack_c15_sh {R_c14 : ACode} {C : Ctx} {I : Nat → Prop} {s : Nat → V} {o : Nat → Option Ob} {Q : Ex → St → Prop} : wpB C I (.seq (.region [2, 3, 4, 5, 15, 20, 21, 23] (some [5, 20]) none
    [⟨some 93, .load (some 1) (.t 20), [], [], none, none⟩,
     ⟨some 94, .load (some 22) (.t 6), [], [], none, none⟩,
     ⟨some 95, .call 5 [(.t 93), (.t 94)], [], [], none, none⟩,
     ⟨some 92, .mv (.t 95), [], [], none, none⟩,
     ⟨some 96, .ext (.t 92) 0, [], [], none, none⟩,
     ⟨some 97, .ext (.t 92) 1, [], [], none, none⟩,
     ⟨some 22, .alloc 22 [.cap0], [], [], none, none⟩,
     ⟨none, .store 1 (.t 22) (.t 96), [], [], none, none⟩,
     ⟨some 23, .mv (.t 97), [], [], none, none⟩])
 (R_c14)) (St.mk s o) Q =
 (demand (loadV o (some 1) (s 20)) (fun x1 =>
demand (loadV o (some 22) (s 6)) (fun x2 =>
callK C I (St.mk (upd (upd s 93 x1) 94 x2) o) (some 95) 5 [x1, x2] (fun r3 or3 =>
demand (extV r3 0) (fun x4 =>
demand (extV r3 1) (fun x5 =>
(¬ I 22 ∧ Fresh (St.mk (upd (upd (upd (upd (upd (upd s 93 x1) 94 x2) 95 r3) 92 r3) 96 x4) 97 x5) or3) 22 (some 22) ∧ V.refsL 22 [V.cap0] = false ∧
storeK (V.ptr 22 0) (cellsV x4) 1 (upd or3 22 (some (Ob.box [V.cap0]))) (fun m6 ob7 =>
wpB C I R_c14 (St.mk (look [(2, (s 2)), (3, (s 3)), (4, (s 4)), (5, (s 5)), (15, (s 15)), (20, (s 20)), (21, (s 21)), (23, x5)]) (looko ([5, 20].map fun n => (n, (upd (upd or3 22 (some (Ob.box [V.cap0]))) m6 (some ob7)) n)))) Q)))))))) := rfl

theorem g_law17_BookBack_c16_sh {R_c15 : ACode} {C : Ctx} {I : Nat → Prop} {s : Nat → V} {o : Nat → Option Ob} {Q : Ex → St → Prop} : wpB C I (.seq (.region [2, 3, 4, 5, 6, 15, 20, 21] (some [5, 6, 20]) none
    [⟨some 87, .load (some 1) (.t 18), [], [], none, none⟩,
     ⟨some 88, .mv (.t 15), [], [], none, none⟩,
     ⟨some 89, .call 7 [(.t 87), (.t 88)], [], [], none, none⟩,
     ⟨some 86, .mv (.t 89), [], [], none, none⟩,
     ⟨some 90, .ext (.t 86) 0, [], [], none, none⟩,
     ⟨some 91, .ext (.t 86) 1, [], [], none, none⟩,
     ⟨some 20, .alloc 20 [.cap0], [], [], none, none⟩,
     ⟨none, .store 1 (.t 20) (.t 90), [], [], none, none⟩,
     ⟨some 21, .mv (.t 91), [], [], none, none⟩])
 (R_c15)) (St.mk s o) Q =
 (demand (loadV o (some 1) (s 18)) (fun x1 =>
callK C I (St.mk (upd (upd s 87 x1) 88 (s 15)) o) (some 89) 7 [x1, (s 15)] (fun r2 or2 =>
demand (extV r2 0) (fun x3 =>
demand (extV r2 1) (fun x4 =>
(¬ I 20 ∧ Fresh (St.mk (upd (upd (upd (upd (upd (upd s 87 x1) 88 (s 15)) 89 r2) 86 r2) 90 x3) 91 x4) or2) 20 (some 20) ∧ V.refsL 20 [V.cap0] = false ∧
storeK (V.ptr 20 0) (cellsV x3) 1 (upd or2 20 (some (Ob.box [V.cap0]))) (fun m5 ob6 =>
wpB C I R_c15 (St.mk (look [(2, (s 2)), (3, (s 3)), (4, (s 4)), (5, (s 5)), (6, (s 6)), (15, (s 15)), (20, (V.ptr 20 0)), (21, x4)]) (looko ([5, 6, 20].map fun n => (n, (upd (upd or2 20 (some (Ob.box [V.cap0]))) m5 (some ob6)) n)))) Q))))))) := rfl

theorem g_law17_BookBack_c17_sh {R_o4 : List AOper} {R_c4 : ACode} {R_c16 : ACode} {C : Ctx} {I : Nat → Prop} {s : Nat → V} {o : Nat → Option Ob} {Q : Ex → St → Prop} : wpB C I (.seq (.seq (.region [2, 3, 4, 5, 6, 15, 18, 77] (some [5, 6, 18]) none
     [⟨some 76, .mv (.t 19), [], [], none, none⟩,
      ⟨some 77, .bin .neq (.t 76) (.c (.d (.int .i64 0))), [], [], none, none⟩])
  (.cond (.t 77) (.seq (.region [10] (some []) none
       (⟨some 78, .faddr 0 (.t 18), [], [], none, none⟩ ::
        ⟨some 79, .load none (.t 78), [], [], none, none⟩ ::
        ⟨some 80, .len (.t 79), [], [], none, none⟩ ::
        ⟨some 81, .mv (.t 15), [], [], none, none⟩ ::
        ⟨some 82, .bin .eql (.t 80) (.t 81), [], [], none, none⟩ ::
        ⟨some 83, .mv (.t 82), [], [], none, (some ([83], (some [])))⟩ ::
        R_o4))
    (R_c4))
   (.skip)))
 (R_c16)) (St.mk s o) Q =
 (demand (binV BinOp.neq (s 19) (V.d (.int .i64 0))) (fun x1 =>
condK x1
 (demand (faddrV 0 (s 18)) (fun x2 =>
demand (loadV (looko ([5, 6, 18].map fun n => (n, o n))) none x2) (fun x3 =>
demand (lenV (looko ([5, 6, 18].map fun n => (n, o n))) x3) (fun x4 =>
demand (binV BinOp.eql x4 (s 15)) (fun x5 =>
opsB C I R_o4 (St.mk (look [(83, x5)]) (looko ([].map fun n => (n, o n)))) (fun st => (seqK (fun st => wpB C I R_c4 st (seqK (fun st => wpB C I R_c16 st Q) Q)) (seqK (fun st => wpB C I R_c16 st Q) Q)) .normal (St.trim st [10] (some []))))))))
 (wpB C I R_c16 (St.mk (look [(2, (s 2)), (3, (s 3)), (4, (s 4)), (5, (s 5)), (6, (s 6)), (15, (s 15)), (18, (s 18)), (77, x1)]) (looko ([5, 6, 18].map fun n => (n, o n)))) Q))) := rfl

theorem g_law17_BookBack_c18_sh {R_c17 : ACode} {C : Ctx} {I : Nat → Prop} {s : Nat → V} {o : Nat → Option Ob} {Q : Ex → St → Prop} : wpB C I (.seq (.region [2, 3, 4, 5, 6, 15, 18, 19] (some [5, 6, 18]) none
    [⟨some 71, .load (some 1) (.t 5), [], [], none, none⟩,
     ⟨some 72, .load (some 22) (.t 6), [], [], none, none⟩,
     ⟨some 73, .call 5 [(.t 71), (.t 72)], [], [], none, none⟩,
     ⟨some 70, .mv (.t 73), [], [], none, none⟩,
     ⟨some 74, .ext (.t 70) 0, [], [], none, none⟩,
     ⟨some 75, .ext (.t 70) 1, [], [], none, none⟩,
     ⟨some 18, .alloc 18 [.cap0], [], [], none, none⟩,
     ⟨none, .store 1 (.t 18) (.t 74), [], [], none, none⟩,
     ⟨some 19, .mv (.t 75), [], [], none, none⟩])
 (R_c17)) (St.mk s o) Q =
 (demand (loadV o (some 1) (s 5)) (fun x1 =>
demand (loadV o (some 22) (s 6)) (fun x2 =>
callK C I (St.mk (upd (upd s 71 x1) 72 x2) o) (some 73) 5 [x1, x2] (fun r3 or3 =>
demand (extV r3 0) (fun x4 =>
demand (extV r3 1) (fun x5 =>
(¬ I 18 ∧ Fresh (St.mk (upd (upd (upd (upd (upd (upd s 71 x1) 72 x2) 73 r3) 70 r3) 74 x4) 75 x5) or3) 18 (some 18) ∧ V.refsL 18 [V.cap0] = false ∧
storeK (V.ptr 18 0) (cellsV x4) 1 (upd or3 18 (some (Ob.box [V.cap0]))) (fun m6 ob7 =>
wpB C I R_c17 (St.mk (look [(2, (s 2)), (3, (s 3)), (4, (s 4)), (5, (s 5)), (6, (s 6)), (15, (s 15)), (18, (V.ptr 18 0)), (19, x5)]) (looko ([5, 6, 18].map fun n => (n, (upd (upd or3 18 (some (Ob.box [V.cap0]))) m6 (some ob7)) n)))) Q)))))))) := rfl

theorem g_law17_BookBack_c19_sh {R_c3 : ACode} {R_c18 : ACode} {C : Ctx} {I : Nat → Prop} {s : Nat → V} {o : Nat → Option Ob} {Q : Ex → St → Prop} : wpB C I (.seq (.seq (.region [2, 3, 4, 5, 6, 15, 58, 59, 60] (some [5, 6]) none
     [⟨some 57, .faddr 0 (.t 5), [], [], none, none⟩,
      ⟨some 58, .load none (.t 57), [], [], none, none⟩,
      ⟨some 59, .len (.t 58), [], [], none, none⟩,
      ⟨some 60, .mv (.c (.d (.int .i64 0))), [], [], none, none⟩])
  (R_c3))
 (R_c18)) (St.mk s o) Q =
 (demand (faddrV 0 (s 5)) (fun x1 =>
demand (loadV o none x1) (fun x2 =>
demand (lenV o x2) (fun x3 =>
wpB C I R_c3 (St.mk (look [(2, (s 2)), (3, (s 3)), (4, (s 4)), (5, (s 5)), (6, (s 6)), (15, (s 15)), (58, x2), (59, x3), (60, (V.d (.int .i64 0)))]) (looko ([5, 6].map fun n => (n, o n)))) (seqK (fun st => wpB C I R_c18 st Q) Q))))) := rfl

theorem g_law17_BookBack_c20_sh {R_c19 : ACode} {C : Ctx} {I : Nat → Prop} {s : Nat → V} {o : Nat → Option Ob} {Q : Ex → St → Prop} : wpB C I (.seq (.region [2, 3, 4, 5, 6, 15] (some [5, 6]) none
    [⟨some 54, .faddr 0 (.t 5), [], [], none, none⟩,
     ⟨some 55, .load none (.t 54), [], [], none, none⟩,
     ⟨some 56, .len (.t 55), [], [], none, none⟩,
     ⟨some 15, .mv (.t 56), [], [], none, none⟩])
 (R_c19)) (St.mk s o) Q =
 (demand (faddrV 0 (s 5)) (fun x1 =>
demand (loadV o none x1) (fun x2 =>
demand (lenV o x2) (fun x3 =>
wpB C I R_c19 (St.mk (look [(2, (s 2)), (3, (s 3)), (4, (s 4)), (5, (s 5)), (6, (s 6)), (15, x3)]) (looko ([5, 6].map fun n => (n, o n)))) Q)))) := rfl

theorem g_law17_BookBack_c21_sh {R_o0 : List AOper} {R_c0 : ACode} {R_c20 : ACode} {C : Ctx} {I : Nat → Prop} {s : Nat → V} {o : Nat → Option Ob} {Q : Ex → St → Prop} : wpB C I (.seq (.seq (.region [2, 3, 4, 5, 6, 52] (some [5, 6]) none
     (⟨some 42, .mv (.t 12), [], [], none, none⟩ ::
      ⟨some 43, .un .not (.t 42), [], [], none, none⟩ ::
      ⟨some 44, .mv (.t 43), [], [], none, (some ([2, 3, 4, 5, 6, 14, 44], (some [5, 6])))⟩ ::
      R_o0))
  (R_c0))
 (R_c20)) (St.mk s o) Q =
 (demand (unV UnOp.not (s 12)) (fun x1 =>
opsB C I R_o0 (St.mk (look [(2, (s 2)), (3, (s 3)), (4, (s 4)), (5, (s 5)), (6, (s 6)), (14, (s 14)), (44, x1)]) (looko ([5, 6].map fun n => (n, o n)))) (fun st => (seqK (fun st => wpB C I R_c0 st (seqK (fun st => wpB C I R_c20 st Q) Q)) (seqK (fun st => wpB C I R_c20 st Q) Q)) .normal (St.trim st [2, 3, 4, 5, 6, 52] (some [5, 6]))))) := rfl

theorem g_law17_BookBack_c22_sh {R_c21 : ACode} {C : Ctx} {I : Nat → Prop} {s : Nat → V} {o : Nat → Option Ob} {Q : Ex → St → Prop} : wpB C I (.seq (.region [2, 3, 4, 5, 6, 12, 14] (some [5, 6]) none
    [⟨some 36, .load (some 22) (.t 6), [], [], none, none⟩,
     ⟨some 37, .bsl none 22 [] 1 [(0, (.t 36))], [], [], none, none⟩,
     ⟨some 38, .build [.cap0] [(0, 1, (.t 37))], [], [], none, none⟩,
     ⟨some 39, .call 3 [(.t 38)], [], [], none, none⟩,
     ⟨some 35, .mv (.t 39), [], [], none, none⟩,
     ⟨some 40, .ext (.t 35) 0, [], [], none, none⟩,
     ⟨some 41, .ext (.t 35) 1, [], [], none, none⟩,
     ⟨some 13, .mv (.t 40), [], [], none, none⟩,
     ⟨some 14, .mv (.t 41), [], [], none, none⟩])
 (R_c21)) (St.mk s o) Q =
 (demand (loadV o (some 22) (s 6)) (fun x1 =>
lstK (partsN 22 [x1]) (fun es2 =>
demand ((buildN [V.cap0] [(0, 1, (V.d (D.sl es2)))]).map V.agg) (fun x3 =>
callK C I (St.mk (upd (upd (upd s 36 x1) 37 (V.d (D.sl es2))) 38 x3) o) (some 39) 3 [x3] (fun r4 or4 =>
demand (extV r4 0) (fun x5 =>
demand (extV r4 1) (fun x6 =>
wpB C I R_c21 (St.mk (look [(2, (s 2)), (3, (s 3)), (4, (s 4)), (5, (s 5)), (6, (s 6)), (12, (s 12)), (14, x6)]) (looko ([5, 6].map fun n => (n, or4 n)))) Q))))))) := rfl

theorem g_law17_BookBack_code_sh {R_c22 : ACode} {C : Ctx} {I : Nat → Prop} {s : Nat → V} {o : Nat → Option Ob} {Q : Ex → St → Prop} : wpB C I (.seq (.region [2, 3, 4, 5, 6] (some [5, 6]) none
    [⟨some 5, .box 5 1 (.t 0), [], [], none, none⟩,
     ⟨some 6, .box 6 22 (.t 1), [], [], none, none⟩,
     ⟨some 10, .mv (.c (.d (.bool false))), [], [], none, none⟩])
 (.seq (.region [2, 3, 4, 5, 6, 12] (some [5, 6]) none
     [⟨some 31, .load (some 1) (.t 5), [], [], none, none⟩,
      ⟨some 32, .call 3 [(.t 31)], [], [], none, none⟩,
      ⟨some 30, .mv (.t 32), [], [], none, none⟩,
      ⟨some 33, .ext (.t 30) 0, [], [], none, none⟩,
      ⟨some 34, .ext (.t 30) 1, [], [], none, none⟩,
      ⟨some 11, .mv (.t 33), [], [], none, none⟩,
      ⟨some 12, .mv (.t 34), [], [], none, none⟩])
  (R_c22))) (St.mk s o) Q =
 (lstK (cellsV (s 0)) (fun c1 => c1.length = 1 ∧ ¬ I 5 ∧ Fresh (St.mk s o) 5 (some 5) ∧ V.refsL 5 c1 = false ∧
lstK (cellsV (s 1)) (fun c2 => c2.length = 22 ∧ ¬ I 6 ∧ Fresh (St.mk (upd s 5 (V.ptr 5 0)) (upd o 5 (some (Ob.box c1)))) 6 (some 6) ∧ V.refsL 6 c2 = false ∧
demand (loadV (looko ([5, 6].map fun n => (n, (upd (upd o 5 (some (Ob.box c1))) 6 (some (Ob.box c2))) n))) (some 1) (V.ptr 5 0)) (fun x3 =>
callK C I (St.mk (upd (look [(2, (s 2)), (3, (s 3)), (4, (s 4)), (5, (V.ptr 5 0)), (6, (V.ptr 6 0))]) 31 x3) (looko ([5, 6].map fun n => (n, (upd (upd o 5 (some (Ob.box c1))) 6 (some (Ob.box c2))) n)))) (some 32) 3 [x3] (fun r4 or4 =>
demand (extV r4 0) (fun x5 =>
demand (extV r4 1) (fun x6 =>
wpB C I R_c22 (St.mk (look [(2, (s 2)), (3, (s 3)), (4, (s 4)), (5, (V.ptr 5 0)), (6, (V.ptr 6 0)), (12, x6)]) (looko ([5, 6].map fun n => (n, or4 n)))) Q))))))) := rfl

theorem g_law17_BookMore_o5_sh {C : Ctx} {I : Nat → Prop} {s : Nat → V} {o : Nat → Option Ob} {K : St → Prop} : opsB C I [⟨some 52, .pick (.t 47) (.c (.d (.bool true))) (.t 51), [], [], none, none⟩] (St.mk s o) K =
 (demand (pickV (s 47) (V.d (.bool true)) (s 51)) (fun x1 =>
K (St.mk (upd s 52 x1) o))) := rfl

theorem g_law17_BookMore_o4_sh {R_o5 : List AOper} {C : Ctx} {I : Nat → Prop} {s : Nat → V} {o : Nat → Option Ob} {K : St → Prop} : opsB C I (⟨some 48, .faddr 2 (.t 6), [], [], (some (11, 47, false)), none⟩ ::
     ⟨some 49, .load none (.t 48), [], [], (some (11, 47, false)), none⟩ ::
     ⟨some 50, .mv (.t 2), [], [], (some (11, 47, false)), none⟩ ::
     ⟨some 51, .bin .eql (.t 49) (.t 50), [], [], (some (11, 47, false)), (some ([2, 3, 4, 5, 6, 47, 51], (some [5, 6])))⟩ ::
     R_o5) (St.mk s o) K =
 (guardK (s 47) false
 (demand (faddrV 2 (s 6)) (fun x1 =>
demand (loadV o none x1) (fun x2 =>
demand (binV BinOp.eql x2 (s 2)) (fun x3 =>
opsB C I R_o5 (St.mk (look [(2, (s 2)), (3, (s 3)), (4, (s 4)), (5, (s 5)), (6, (s 6)), (47, (V.d (D.bool false))), (51, x3)]) (looko ([5, 6].map fun n => (n, o n)))) K))))
 (opsB C I R_o5 (St.mk (look [(2, (s 2)), (3, (s 3)), (4, (s 4)), (5, (s 5)), (6, (s 6)), (47, (V.d (D.bool true))), (51, (V.tup []))]) (looko ([5, 6].map fun n => (n, o n)))) K)
 (opsB C I R_o5 (St.mk (look [(2, (s 2)), (3, (s 3)), (4, (s 4)), (5, (s 5)), (6, (s 6)), (47, (V.tup [])), (51, (V.tup []))]) (looko ([5, 6].map fun n => (n, o n)))) K)) := rfl

theorem g_law17_BookMore_o3_sh {R_o4 : List AOper} {C : Ctx} {I : Nat → Prop} {s : Nat → V} {o : Nat → Option Ob} {K : St → Prop} : opsB C I (⟨some 46, .pick (.t 42) (.c (.d (.bool true))) (.t 45), [], [], none, none⟩ ::
     ⟨some 47, .mv (.t 46), [], [], none, (some ([2, 3, 4, 5, 6, 47], (some [5, 6])))⟩ ::
     R_o4) (St.mk s o) K =
 (demand (pickV (s 42) (V.d (.bool true)) (s 45)) (fun x1 =>
opsB C I R_o4 (St.mk (look [(2, (s 2)), (3, (s 3)), (4, (s 4)), (5, (s 5)), (6, (s 6)), (47, x1)]) (looko ([5, 6].map fun n => (n, o n)))) K)) := rfl

theorem g_law17_BookMore_o2_sh {R_o3 : List AOper} {C : Ctx} {I : Nat → Prop} {s : Nat → V} {o : Nat → Option Ob} {K : St → Prop} : opsB C I (⟨some 43, .mv (.t 4), [], [], (some (6, 42, false)), none⟩ ::
     ⟨some 44, .len (.t 43), [], [], (some (6, 42, false)), none⟩ ::
     ⟨some 45, .bin .gtr (.t 44) (.c (.d (.int .i64 40))), [], [], (some (6, 42, false)), (some ([2, 3, 4, 5, 6, 42, 45], (some [5, 6])))⟩ ::
     R_o3) (St.mk s o) K =
 (guardK (s 42) false
 (demand (lenV o (s 4)) (fun x1 =>
demand (binV BinOp.gtr x1 (V.d (.int .i64 40))) (fun x2 =>
opsB C I R_o3 (St.mk (look [(2, (s 2)), (3, (s 3)), (4, (s 4)), (5, (s 5)), (6, (s 6)), (42, (V.d (D.bool false))), (45, x2)]) (looko ([5, 6].map fun n => (n, o n)))) K)))
 (opsB C I R_o3 (St.mk (look [(2, (s 2)), (3, (s 3)), (4, (s 4)), (5, (s 5)), (6, (s 6)), (42, (V.d (D.bool true))), (45, (V.tup []))]) (looko ([5, 6].map fun n => (n, o n)))) K)
 (opsB C I R_o3 (St.mk (look [(2, (s 2)), (3, (s 3)), (4, (s 4)), (5, (s 5)), (6, (s 6)), (42, (V.tup [])), (45, (V.tup []))]) (looko ([5, 6].map fun n => (n, o n)))) K)) := rfl

theorem g_law17_BookMore_o1_sh {R_o2 : List AOper} {C : Ctx} {I : Nat → Prop} {s : Nat → V} {o : Nat → Option Ob} {K : St → Prop} : opsB C I (⟨some 41, .pick (.t 38) (.c (.d (.bool true))) (.t 40), [], [], none, none⟩ ::
     ⟨some 42, .mv (.t 41), [], [], none, (some ([2, 3, 4, 5, 6, 42], (some [5, 6])))⟩ ::
     R_o2) (St.mk s o) K =
 (demand (pickV (s 38) (V.d (.bool true)) (s 40)) (fun x1 =>
opsB C I R_o2 (St.mk (look [(2, (s 2)), (3, (s 3)), (4, (s 4)), (5, (s 5)), (6, (s 6)), (42, x1)]) (looko ([5, 6].map fun n => (n, o n)))) K)) := rfl

theorem g_law17_BookMore_o0_sh {R_o1 : List AOper} {C : Ctx} {I : Nat → Prop} {s : Nat → V} {o : Nat → Option Ob} {K : St → Prop} : opsB C I (⟨some 39, .mv (.t 14), [], [], (some (2, 38, false)), none⟩ ::
     ⟨some 40, .un .not (.t 39), [], [], (some (2, 38, false)), (some ([2, 3, 4, 5, 6, 38, 40], (some [5, 6])))⟩ ::
     R_o1) (St.mk s o) K =
 (guardK (s 38) false
 (demand (unV UnOp.not (s 14)) (fun x1 =>
opsB C I R_o1 (St.mk (look [(2, (s 2)), (3, (s 3)), (4, (s 4)), (5, (s 5)), (6, (s 6)), (38, (V.d (D.bool false))), (40, x1)]) (looko ([5, 6].map fun n => (n, o n)))) K))
 (opsB C I R_o1 (St.mk (look [(2, (s 2)), (3, (s 3)), (4, (s 4)), (5, (s 5)), (6, (s 6)), (38, (V.d (D.bool true))), (40, (V.tup []))]) (looko ([5, 6].map fun n => (n, o n)))) K)
 (opsB C I R_o1 (St.mk (look [(2, (s 2)), (3, (s 3)), (4, (s 4)), (5, (s 5)), (6, (s 6)), (38, (V.tup [])), (40, (V.tup []))]) (looko ([5, 6].map fun n => (n, o n)))) K)) := rfl

theorem g_law17_BookMore_c0_sh {C : Ctx} {I : Nat → Prop} {s : Nat → V} {o : Nat → Option Ob} {Q : Ex → St → Prop} : wpB C I (.cond (.t 52) (.seq (.region [10] (some []) none
     [⟨some 53, .call 4 [], [], [], none, none⟩,
      ⟨some 10, .mv (.t 53), [], [], none, none⟩])
  (.ret))
 (.skip)) (St.mk s o) Q =
 (condK (s 52)
 (callK C I (St.mk s o) (some 53) 4 [] (fun r1 or1 =>
Q .ret (St.mk (look [(10, r1)]) (looko ([].map fun n => (n, or1 n))))))
 (Q .normal (St.mk s o))) := rfl

theorem g_law17_BookMore_c1_sh {C : Ctx} {I : Nat → Prop} {s : Nat → V} {o : Nat → Option Ob} {Q : Ex → St → Prop} : wpB C I (.seq (.region [2, 3, 4, 5, 6, 55, 56, 57, 66] (some [5, 6]) none
    [⟨some 61, .faddr 4 (.t 16), [], [], none, none⟩,
     ⟨some 62, .load none (.t 61), [], [], none, none⟩,
     ⟨some 63, .faddr 0 (.t 5), [], [], none, none⟩,
     ⟨some 64, .load none (.t 63), [], [], none, none⟩,
     ⟨some 65, .len (.t 64), [], [], none, none⟩,
     ⟨some 66, .bin .gtr (.t 62) (.t 65), [], [], none, none⟩])
 (.cond (.t 66) (.seq (.region [10] (some []) none
      [⟨some 67, .call 4 [], [], [], none, none⟩,
       ⟨some 10, .mv (.t 67), [], [], none, none⟩])
   (.ret))
  (.skip))) (St.mk s o) Q =
 (demand (faddrV 4 (s 16)) (fun x1 =>
demand (loadV o none x1) (fun x2 =>
demand (faddrV 0 (s 5)) (fun x3 =>
demand (loadV o none x3) (fun x4 =>
demand (lenV o x4) (fun x5 =>
demand (binV BinOp.gtr x2 x5) (fun x6 =>
condK x6
 (callK C I (St.mk (look [(2, (s 2)), (3, (s 3)), (4, (s 4)), (5, (s 5)), (6, (s 6)), (55, (s 55)), (56, (s 56)), (57, (s 57)), (66, x6)]) (looko ([5, 6].map fun n => (n, o n)))) (some 67) 4 [] (fun r7 or7 =>
Q .ret (St.mk (look [(10, r7)]) (looko ([].map fun n => (n, or7 n))))))
 (Q .normal (St.mk (look [(2, (s 2)), (3, (s 3)), (4, (s 4)), (5, (s 5)), (6, (s 6)), (55, (s 55)), (56, (s 56)), (57, (s 57)), (66, x6)]) (looko ([5, 6].map fun n => (n, o n)))))))))))) := rfl

theorem g_law17_BookMore_c2_sh {C : Ctx} {I : Nat → Prop} {s : Nat → V} {o : Nat → Option Ob} {Q : Ex → St → Prop} : wpB C I (.region [2, 3, 4, 5, 6, 55, 56, 57] (some [5, 6]) none
   [⟨some 68, .bin .add (.t 57) (.c (.d (.int .i64 1))), [], [], none, none⟩,
    ⟨some 57, .mv (.t 68), [], [], none, none⟩]) (St.mk s o) Q =
 (demand (binV BinOp.add (s 57) (V.d (.int .i64 1))) (fun x1 =>
Q .normal (St.mk (look [(2, (s 2)), (3, (s 3)), (4, (s 4)), (5, (s 5)), (6, (s 6)), (55, (s 55)), (56, (s 56)), (57, x1)]) (looko ([5, 6].map fun n => (n, o n)))))) := rfl

theorem g_law17_BookMore_l0_sh {R_l0 : ACode} {R_c1 : ACode} {R_c2 : ACode} {C : Ctx} {I : Nat → Prop} {s : Nat → V} {o : Nat → Option Ob} {Q : Ex → St → Prop} (hL : R_l0 = .loop [2, 3, 4, 5, 6, 55, 56, 57] (some [5, 6]) (.seq (.region [2, 3, 4, 5, 6, 55, 56, 57, 58] (some [5, 6]) none
     [⟨some 58, .bin .lss (.t 57) (.t 56), [], [], none, none⟩])
  (.seq (.cond (.t 58) (.skip)
    (.exit 0))
   (.seq (.block 1 [2, 3, 4, 5, 6, 55, 56, 57] (some [5, 6]) (.seq (.region [2, 3, 4, 5, 6, 16, 55, 56, 57] (some [5, 6, 16]) none
         [⟨some 59, .iaddr 22 (.t 55) (.t 57), [], [], none, none⟩,
          ⟨some 60, .load (some 22) (.t 59), [], [], none, none⟩,
          ⟨some 16, .alloc 16 [.d (.int .i64 0), .d (.int .i64 0), .d (.int .i64 0), .d (.int .i64 0), .d (.int .i64 0), .cap0, .d (.int .i64 0), .d (.int .i64 0), .d (.int .i64 0), .d (.int .i64 0), .d (.int .i64 0), .d (.int .i64 0), .d (.int .i64 0), .d (.int .i64 0), .d (.int .i64 0), .d (.int .i64 0), .d (.int .i64 0), .d (.int .i64 0), .cap0, .cap0, .cap0, .cap0], [], [], none, none⟩,
          ⟨none, .store 22 (.t 16) (.t 60), [], [], none, none⟩])
      (R_c1)))
    (R_c2)))))
 (h : demand (binV BinOp.lss (s 57) (s 56)) (fun x1 =>
condK x1
 (demand (iaddrV (looko ([5, 6].map fun n => (n, o n))) 22 (s 55) (s 57)) (fun x2 =>
demand (loadV (looko ([5, 6].map fun n => (n, o n))) (some 22) x2) (fun x3 =>
(¬ I 16 ∧ Fresh (St.mk (upd (upd (look [(2, (s 2)), (3, (s 3)), (4, (s 4)), (5, (s 5)), (6, (s 6)), (55, (s 55)), (56, (s 56)), (57, (s 57)), (58, x1)]) 59 x2) 60 x3) (looko ([5, 6].map fun n => (n, o n)))) 16 (some 16) ∧ V.refsL 16 [V.d (.int .i64 0), V.d (.int .i64 0), V.d (.int .i64 0), V.d (.int .i64 0), V.d (.int .i64 0), V.cap0, V.d (.int .i64 0), V.d (.int .i64 0), V.d (.int .i64 0), V.d (.int .i64 0), V.d (.int .i64 0), V.d (.int .i64 0), V.d (.int .i64 0), V.d (.int .i64 0), V.d (.int .i64 0), V.d (.int .i64 0), V.d (.int .i64 0), V.d (.int .i64 0), V.cap0, V.cap0, V.cap0, V.cap0] = false ∧
storeK (V.ptr 16 0) (cellsV x3) 22 (upd (looko ([5, 6].map fun n => (n, o n))) 16 (some (Ob.box [V.d (.int .i64 0), V.d (.int .i64 0), V.d (.int .i64 0), V.d (.int .i64 0), V.d (.int .i64 0), V.cap0, V.d (.int .i64 0), V.d (.int .i64 0), V.d (.int .i64 0), V.d (.int .i64 0), V.d (.int .i64 0), V.d (.int .i64 0), V.d (.int .i64 0), V.d (.int .i64 0), V.d (.int .i64 0), V.d (.int .i64 0), V.d (.int .i64 0), V.d (.int .i64 0), V.cap0, V.cap0, V.cap0, V.cap0]))) (fun m4 ob5 =>
wpB C I R_c1 (St.mk (look [(2, (s 2)), (3, (s 3)), (4, (s 4)), (5, (s 5)), (6, (s 6)), (16, (V.ptr 16 0)), (55, (s 55)), (56, (s 56)), (57, (s 57))]) (looko ([5, 6, 16].map fun n => (n, (upd (upd (looko ([5, 6].map fun n => (n, o n))) 16 (some (Ob.box [V.d (.int .i64 0), V.d (.int .i64 0), V.d (.int .i64 0), V.d (.int .i64 0), V.d (.int .i64 0), V.cap0, V.d (.int .i64 0), V.d (.int .i64 0), V.d (.int .i64 0), V.d (.int .i64 0), V.d (.int .i64 0), V.d (.int .i64 0), V.d (.int .i64 0), V.d (.int .i64 0), V.d (.int .i64 0), V.d (.int .i64 0), V.d (.int .i64 0), V.d (.int .i64 0), V.cap0, V.cap0, V.cap0, V.cap0]))) m4 (some ob5)) n)))) (blockK 1 [2, 3, 4, 5, 6, 55, 56, 57] (some [5, 6]) (seqK (fun st => wpB C I R_c2 st (seqK (fun s => wpB C I R_l0 s Q) Q)) (seqK (fun s => wpB C I R_l0 s Q) Q))))))))
 (Q (.exit 0) (St.mk (look [(2, (s 2)), (3, (s 3)), (4, (s 4)), (5, (s 5)), (6, (s 6)), (55, (s 55)), (56, (s 56)), (57, (s 57)), (58, x1)]) (looko ([5, 6].map fun n => (n, o n))))))) : wpB C I R_l0 (St.mk s o) Q := w_loopC hL h

theorem g_law17_BookMore_c3_sh {R_l0 : ACode} {C : Ctx} {I : Nat → Prop} {s : Nat → V} {o : Nat → Option Ob} {Q : Ex → St → Prop} : wpB C I (.block 0 [2, 3, 4, 5, 6] (some [5, 6]) (R_l0)) (St.mk s o) Q =
 (wpB C I R_l0 (St.mk s o) (blockK 0 [2, 3, 4, 5, 6] (some [5, 6]) Q)) := rfl

theorem g_law17_BookMore_t16_sh {C : Ctx} {I : Nat → Prop} {s : Nat → V} {o : Nat → Option Ob} {K : St → Prop} : treeB C I g_law17_BookMore.a6 (.one 13 .done) (St.mk s o) K =
 ((([] : List Nat) = [] ∧ (storeK (s 20) (cellsV (s 84)) 5 o (fun m1 ob2 =>
K (St.mk s (upd o m1 (some ob2))))))) := rfl

theorem g_law17_BookMore_t17_sh {R_t16 : Tr} {C : Ctx} {I : Nat → Prop} {s : Nat → V} {o : Nat → Option Ob} {K : St → Prop} : treeB C I g_law17_BookMore.a6 (.one 12 R_t16) (St.mk s o) K =
 ((([] : List Nat) = [] ∧ (storeK (s 19) (cellsV (s 79)) 5 o (fun m1 ob2 =>
treeB C I g_law17_BookMore.a6 R_t16 (St.mk s (upd o m1 (some ob2))) K)))) := rfl

theorem g_law17_BookMore_t18_sh {R_t17 : Tr} {C : Ctx} {I : Nat → Prop} {s : Nat → V} {o : Nat → Option Ob} {K : St → Prop} : treeB C I g_law17_BookMore.a6 (.one 11 R_t17) (St.mk s o) K =
 ((([] : List Nat) = [] ∧ ((¬ I 20 ∧ Fresh (St.mk s o) 20 (some 20) ∧ V.refsL 20 [V.d (.int .i64 0), V.d (.int .i64 0), V.d (.int .i64 0), V.cap0, V.cap0] = false ∧
treeB C I g_law17_BookMore.a6 R_t17 (St.mk (upd s 20 (V.ptr 20 0)) (upd o 20 (some (Ob.box [V.d (.int .i64 0), V.d (.int .i64 0), V.d (.int .i64 0), V.cap0, V.cap0])))) K)))) := rfl

theorem g_law17_BookMore_t19_sh {R_t17 : Tr} {C : Ctx} {I : Nat → Prop} {s : Nat → V} {o : Nat → Option Ob} {K : St → Prop} : treeB C I g_law17_BookMore.a6 (.one 10 R_t17) (St.mk s o) K =
 ((([] : List Nat) = [] ∧ ((¬ I 19 ∧ Fresh (St.mk s o) 19 (some 19) ∧ V.refsL 19 [V.d (.int .i64 0), V.d (.int .i64 0), V.d (.int .i64 0), V.cap0, V.cap0] = false ∧
treeB C I g_law17_BookMore.a6 R_t17 (St.mk (upd s 19 (V.ptr 19 0)) (upd o 19 (some (Ob.box [V.d (.int .i64 0), V.d (.int .i64 0), V.d (.int .i64 0), V.cap0, V.cap0])))) K)))) := rfl

theorem g_law17_BookMore_t20_sh {R_t19 : Tr} {C : Ctx} {I : Nat → Prop} {s : Nat → V} {o : Nat → Option Ob} {K : St → Prop} : treeB C I g_law17_BookMore.a6 (.one 11 R_t19) (St.mk s o) K =
 ((([] : List Nat) = [] ∧ ((¬ I 20 ∧ Fresh (St.mk s o) 20 (some 20) ∧ V.refsL 20 [V.d (.int .i64 0), V.d (.int .i64 0), V.d (.int .i64 0), V.cap0, V.cap0] = false ∧
treeB C I g_law17_BookMore.a6 R_t19 (St.mk (upd s 20 (V.ptr 20 0)) (upd o 20 (some (Ob.box [V.d (.int .i64 0), V.d (.int .i64 0), V.d (.int .i64 0), V.cap0, V.cap0])))) K)))) := rfl

theorem g_law17_BookMore_t21_sh {R_t18 : Tr} {R_t20 : Tr} {C : Ctx} {I : Nat → Prop} {s : Nat → V} {o : Nat → Option Ob} {K : St → Prop} : treeB C I g_law17_BookMore.a6 (.two 10 R_t18 R_t20) (St.mk s o) K =
 ((([] : List Nat) = [] ∧ ((¬ I 19 ∧ Fresh (St.mk s o) 19 (some 19) ∧ V.refsL 19 [V.d (.int .i64 0), V.d (.int .i64 0), V.d (.int .i64 0), V.cap0, V.cap0] = false ∧
treeB C I g_law17_BookMore.a6 R_t18 (St.mk (upd s 19 (V.ptr 19 0)) (upd o 19 (some (Ob.box [V.d (.int .i64 0), V.d (.int .i64 0), V.d (.int .i64 0), V.cap0, V.cap0])))) K))) ∧ treeB C I g_law17_BookMore.a6 R_t20 (St.mk s o) K) := rfl

theorem g_law17_BookMore_i15_sh {R_t21 : Tr} {C : Ctx} {I : Nat → Prop} {s : Nat → V} {o : Nat → Option Ob} {K : St → Prop} : drawB C I g_law17_BookMore.a6 (9 :: []) R_t21 (St.mk s o) K =
 ((s 84) = V.undef ∧ (∃ x1, SoundAt C 6 ⟨[(s 80), (s 81), (s 83), (V.d (.int .i64 6))], fun _ => none⟩ ⟨x1, fun _ => none⟩ ∧ (∀ n, V.refs n x1 = false) ∧ quietV o (x1 :: [(s 80), (s 81), (s 83), (V.d (.int .i64 6))]) ∧
treeB C I g_law17_BookMore.a6 R_t21 (St.mk (upd s 84 x1) o) K)) := rfl

theorem g_law17_BookMore_i14_sh {R_i15 : List Nat} {R_t21 : Tr} {C : Ctx} {I : Nat → Prop} {s : Nat → V} {o : Nat → Option Ob} {K : St → Prop} : drawB C I g_law17_BookMore.a6 (8 :: R_i15) R_t21 (St.mk s o) K =
 ((s 83) = V.undef ∧ (demand (binV BinOp.quo (s 82) (V.d (.int .i64 12))) (fun x1 => quietV o (x1 :: [(s 82), (V.d (.int .i64 12))]) ∧
drawB C I g_law17_BookMore.a6 R_i15 R_t21 (St.mk (upd s 83 x1) o) K))) := rfl

theorem g_law17_BookMore_i13_sh {R_i14 : List Nat} {R_t21 : Tr} {C : Ctx} {I : Nat → Prop} {s : Nat → V} {o : Nat → Option Ob} {K : St → Prop} : drawB C I g_law17_BookMore.a6 (7 :: R_i14) R_t21 (St.mk s o) K =
 ((s 82) = V.undef ∧ (quietV o ((s 3) :: [(s 3)]) ∧
drawB C I g_law17_BookMore.a6 R_i14 R_t21 (St.mk (upd s 82 (s 3)) o) K)) := rfl

theorem g_law17_BookMore_i12_sh {R_i13 : List Nat} {R_t21 : Tr} {C : Ctx} {I : Nat → Prop} {s : Nat → V} {o : Nat → Option Ob} {K : St → Prop} : drawB C I g_law17_BookMore.a6 (6 :: R_i13) R_t21 (St.mk s o) K =
 ((s 81) = V.undef ∧ (quietV o ((s 2) :: [(s 2)]) ∧
drawB C I g_law17_BookMore.a6 R_i13 R_t21 (St.mk (upd s 81 (s 2)) o) K)) := rfl

theorem g_law17_BookMore_i11_sh {R_i12 : List Nat} {R_t21 : Tr} {C : Ctx} {I : Nat → Prop} {s : Nat → V} {o : Nat → Option Ob} {K : St → Prop} : drawB C I g_law17_BookMore.a6 (5 :: R_i12) R_t21 (St.mk s o) K =
 ((s 80) = V.undef ∧ (demand (loadV o (some 1) (s 17)) (fun x1 => quietV o (x1 :: [(s 17)]) ∧
drawB C I g_law17_BookMore.a6 R_i12 R_t21 (St.mk (upd s 80 x1) o) K))) := rfl

theorem g_law17_BookMore_i10_sh {R_i11 : List Nat} {R_t21 : Tr} {C : Ctx} {I : Nat → Prop} {s : Nat → V} {o : Nat → Option Ob} {K : St → Prop} : drawB C I g_law17_BookMore.a6 (4 :: R_i11) R_t21 (St.mk s o) K =
 ((s 79) = V.undef ∧ (∃ x1, SoundAt C 6 ⟨[(s 75), (s 76), (s 78), (V.d (.int .i64 6))], fun _ => none⟩ ⟨x1, fun _ => none⟩ ∧ (∀ n, V.refs n x1 = false) ∧ quietV o (x1 :: [(s 75), (s 76), (s 78), (V.d (.int .i64 6))]) ∧
drawB C I g_law17_BookMore.a6 R_i11 R_t21 (St.mk (upd s 79 x1) o) K)) := rfl

theorem g_law17_BookMore_i9_sh {R_i10 : List Nat} {R_t21 : Tr} {C : Ctx} {I : Nat → Prop} {s : Nat → V} {o : Nat → Option Ob} {K : St → Prop} : drawB C I g_law17_BookMore.a6 (3 :: R_i10) R_t21 (St.mk s o) K =
 ((s 78) = V.undef ∧ (demand (binV BinOp.quo (s 77) (V.d (.int .i64 12))) (fun x1 => quietV o (x1 :: [(s 77), (V.d (.int .i64 12))]) ∧
drawB C I g_law17_BookMore.a6 R_i10 R_t21 (St.mk (upd s 78 x1) o) K))) := rfl

theorem g_law17_BookMore_i8_sh {R_i9 : List Nat} {R_t21 : Tr} {C : Ctx} {I : Nat → Prop} {s : Nat → V} {o : Nat → Option Ob} {K : St → Prop} : drawB C I g_law17_BookMore.a6 (2 :: R_i9) R_t21 (St.mk s o) K =
 ((s 77) = V.undef ∧ (quietV o ((s 3) :: [(s 3)]) ∧
drawB C I g_law17_BookMore.a6 R_i9 R_t21 (St.mk (upd s 77 (s 3)) o) K)) := rfl

theorem g_law17_BookMore_i7_sh {R_i8 : List Nat} {R_t21 : Tr} {C : Ctx} {I : Nat → Prop} {s : Nat → V} {o : Nat → Option Ob} {K : St → Prop} : drawB C I g_law17_BookMore.a6 (1 :: R_i8) R_t21 (St.mk s o) K =
 ((s 76) = V.undef ∧ (quietV o ((s 2) :: [(s 2)]) ∧
drawB C I g_law17_BookMore.a6 R_i8 R_t21 (St.mk (upd s 76 (s 2)) o) K)) := rfl

theorem g_law17_BookMore_o23_sh {C : Ctx} {I : Nat → Prop} {s : Nat → V} {o : Nat → Option Ob} {K : St → Prop} : opsB C I [⟨some 104, .pick (.t 98) (.c (.d (.bool true))) (.t 103), [], [], none, none⟩] (St.mk s o) K =
 (demand (pickV (s 98) (V.d (.bool true)) (s 103)) (fun x1 =>
K (St.mk (upd s 104 x1) o))) := rfl

theorem g_law17_BookMore_o22_sh {R_o23 : List AOper} {C : Ctx} {I : Nat → Prop} {s : Nat → V} {o : Nat → Option Ob} {K : St → Prop} : opsB C I (⟨some 99, .mv (.t 21), [], [], (some (5, 98, false)), none⟩ ::
     ⟨some 100, .len (.t 99), [], [], (some (5, 98, false)), none⟩ ::
     ⟨some 101, .mv (.t 4), [], [], (some (5, 98, false)), none⟩ ::
     ⟨some 102, .len (.t 101), [], [], (some (5, 98, false)), none⟩ ::
     ⟨some 103, .bin .neq (.t 100) (.t 102), [], [], (some (5, 98, false)), (some ([2, 3, 5, 17, 19, 20, 21, 22, 98, 103], (some [5, 17, 19, 20])))⟩ ::
     R_o23) (St.mk s o) K =
 (guardK (s 98) false
 (demand (lenV o (s 21)) (fun x1 =>
demand (lenV o (s 4)) (fun x2 =>
demand (binV BinOp.neq x1 x2) (fun x3 =>
opsB C I R_o23 (St.mk (look [(2, (s 2)), (3, (s 3)), (5, (s 5)), (17, (s 17)), (19, (s 19)), (20, (s 20)), (21, (s 21)), (22, (s 22)), (98, (V.d (D.bool false))), (103, x3)]) (looko ([5, 17, 19, 20].map fun n => (n, o n)))) K))))
 (opsB C I R_o23 (St.mk (look [(2, (s 2)), (3, (s 3)), (5, (s 5)), (17, (s 17)), (19, (s 19)), (20, (s 20)), (21, (s 21)), (22, (s 22)), (98, (V.d (D.bool true))), (103, (V.tup []))]) (looko ([5, 17, 19, 20].map fun n => (n, o n)))) K)
 (opsB C I R_o23 (St.mk (look [(2, (s 2)), (3, (s 3)), (5, (s 5)), (17, (s 17)), (19, (s 19)), (20, (s 20)), (21, (s 21)), (22, (s 22)), (98, (V.tup [])), (103, (V.tup []))]) (looko ([5, 17, 19, 20].map fun n => (n, o n)))) K)) := rfl

theorem g_law17_BookMore_c4_sh {C : Ctx} {I : Nat → Prop} {s : Nat → V} {o : Nat → Option Ob} {Q : Ex → St → Prop} : wpB C I (.cond (.t 104) (.seq (.region [10] (some []) none
     [⟨some 10, .mv (.c (.d (.bool false))), [], [], none, none⟩])
  (.ret))
 (.skip)) (St.mk s o) Q =
 (condK (s 104)
 (Q .ret (St.mk (look [(10, (V.d (.bool false)))]) (looko ([].map fun n => (n, o n)))))
 (Q .normal (St.mk s o))) := rfl

theorem g_law17_BookMore_c5_sh {C : Ctx} {I : Nat → Prop} {s : Nat → V} {o : Nat → Option Ob} {Q : Ex → St → Prop} : wpB C I (.region [2, 3, 5, 17, 19, 20, 21, 22, 106, 107] (some [5, 17, 19, 20]) none
   [⟨some 119, .bin .add (.t 107) (.c (.d (.int .i64 1))), [], [], none, none⟩,
    ⟨some 107, .mv (.t 119), [], [], none, none⟩]) (St.mk s o) Q =
 (demand (binV BinOp.add (s 107) (V.d (.int .i64 1))) (fun x1 =>
Q .normal (St.mk (look [(2, (s 2)), (3, (s 3)), (5, (s 5)), (17, (s 17)), (19, (s 19)), (20, (s 20)), (21, (s 21)), (22, (s 22)), (106, (s 106)), (107, x1)]) (looko ([5, 17, 19, 20].map fun n => (n, o n)))))) := rfl

theorem g_law17_BookMore_l1_sh {R_l1 : ACode} {R_c5 : ACode} {C : Ctx} {I : Nat → Prop} {s : Nat → V} {o : Nat → Option Ob} {Q : Ex → St → Prop} (hL : R_l1 = .loop [2, 3, 5, 17, 19, 20, 21, 22, 106, 107] (some [5, 17, 19, 20]) (.seq (.region [2, 3, 5, 17, 19, 20, 21, 22, 106, 107, 108] (some [5, 17, 19, 20]) none
     [⟨some 108, .bin .lss (.t 107) (.t 106), [], [], none, none⟩])
  (.seq (.cond (.t 108) (.skip)
    (.exit 2))
   (.seq (.block 3 [2, 3, 5, 17, 19, 20, 21, 22, 106, 107] (some [5, 17, 19, 20]) (.seq (.region [2, 3, 5, 17, 19, 20, 21, 22, 23, 106, 107] (some [5, 17, 19, 20]) none
         [⟨some 109, .mv (.t 107), [], [], none, none⟩,
          ⟨some 23, .mv (.t 109), [], [], none, none⟩])
      (.seq (.region [2, 3, 5, 17, 19, 20, 21, 22, 106, 107, 118] (some [5, 17, 19, 20]) (some ([0, 1, 2, 3, 4, 5, 6, 7, 8], .done))
          [⟨some 110, .mv (.t 21), [], [], none, none⟩,
           ⟨some 111, .mv (.t 23), [], [], none, none⟩,
           ⟨some 112, .iaddr 4 (.t 110) (.t 111), [], [0, 1], none, none⟩,
           ⟨some 113, .load (some 4) (.t 112), [], [2], none, none⟩,
           ⟨some 114, .mv (.t 22), [], [], none, none⟩,
           ⟨some 115, .mv (.t 23), [], [], none, none⟩,
           ⟨some 116, .iaddr 4 (.t 114) (.t 115), [], [4, 5], none, none⟩,
           ⟨some 117, .load (some 4) (.t 116), [], [6], none, none⟩,
           ⟨some 118, .eqs true [0, 0, 0, 0] (.t 113) (.t 117), [], [3, 7], none, none⟩])
       (.cond (.t 118) (.seq (.region [10] (some []) none
            [⟨some 10, .mv (.c (.d (.bool false))), [], [], none, none⟩])
         (.ret))
        (.skip)))))
    (R_c5)))))
 (h : demand (binV BinOp.lss (s 107) (s 106)) (fun x1 =>
condK x1
 (V.undef = V.undef ∧ (quietV (looko ([5, 17, 19, 20].map fun n => (n, o n))) ((s 21) :: [(s 21)]) ∧
V.undef = V.undef ∧ (quietV (looko ([5, 17, 19, 20].map fun n => (n, o n))) ((s 107) :: [(s 107)]) ∧
V.undef = V.undef ∧ (demand (iaddrV (looko ([5, 17, 19, 20].map fun n => (n, o n))) 4 (s 21) (s 107)) (fun x4 => quietV (looko ([5, 17, 19, 20].map fun n => (n, o n))) (x4 :: [(s 21), (s 107)]) ∧
V.undef = V.undef ∧ (demand (loadV (looko ([5, 17, 19, 20].map fun n => (n, o n))) (some 4) x4) (fun x5 => quietV (looko ([5, 17, 19, 20].map fun n => (n, o n))) (x5 :: [x4]) ∧
V.undef = V.undef ∧ (quietV (looko ([5, 17, 19, 20].map fun n => (n, o n))) ((s 22) :: [(s 22)]) ∧
V.undef = V.undef ∧ (quietV (looko ([5, 17, 19, 20].map fun n => (n, o n))) ((s 107) :: [(s 107)]) ∧
V.undef = V.undef ∧ (demand (iaddrV (looko ([5, 17, 19, 20].map fun n => (n, o n))) 4 (s 22) (s 107)) (fun x8 => quietV (looko ([5, 17, 19, 20].map fun n => (n, o n))) (x8 :: [(s 22), (s 107)]) ∧
V.undef = V.undef ∧ (demand (loadV (looko ([5, 17, 19, 20].map fun n => (n, o n))) (some 4) x8) (fun x9 => quietV (looko ([5, 17, 19, 20].map fun n => (n, o n))) (x9 :: [x8]) ∧
V.undef = V.undef ∧ (demand (eqsV true [0, 0, 0, 0] x5 x9) (fun x10 => quietV (looko ([5, 17, 19, 20].map fun n => (n, o n))) (x10 :: [x5, x9]) ∧
condK x10
 (Q .ret (St.mk (look [(10, (V.d (.bool false)))]) (looko ([].map fun n => (n, o n)))))
 (wpB C I R_c5 (St.mk (look [(2, (s 2)), (3, (s 3)), (5, (s 5)), (17, (s 17)), (19, (s 19)), (20, (s 20)), (21, (s 21)), (22, (s 22)), (106, (s 106)), (107, (s 107))]) (looko ([5, 17, 19, 20].map fun n => (n, o n)))) (seqK (fun s => wpB C I R_l1 s Q) Q)))))))))))))))))
 (Q (.exit 2) (St.mk (look [(2, (s 2)), (3, (s 3)), (5, (s 5)), (17, (s 17)), (19, (s 19)), (20, (s 20)), (21, (s 21)), (22, (s 22)), (106, (s 106)), (107, (s 107)), (108, x1)]) (looko ([5, 17, 19, 20].map fun n => (n, o n))))))) : wpB C I R_l1 (St.mk s o) Q := w_loopC hL h

theorem g_law17_BookMore_i52_sh {C : Ctx} {I : Nat → Prop} {s : Nat → V} {o : Nat → Option Ob} {K : St → Prop} : drawB C I g_law17_BookMore.a24 (28 :: []) .done (St.mk s o) K =
 ((s 10) = V.undef ∧ (quietV o ((s 147) :: [(s 147)]) ∧
treeB C I g_law17_BookMore.a24 .done (St.mk (upd s 10 (s 147)) o) K)) := rfl

theorem g_law17_BookMore_i51_sh {R_i52 : List Nat} {C : Ctx} {I : Nat → Prop} {s : Nat → V} {o : Nat → Option Ob} {K : St → Prop} : drawB C I g_law17_BookMore.a24 (27 :: R_i52) .done (St.mk s o) K =
 ((s 147) = V.undef ∧ (demand (pickV (s 145) (s 146) (V.d (.bool false))) (fun x1 => quietV o (x1 :: [(s 145), (s 146), (V.d (.bool false))]) ∧
drawB C I g_law17_BookMore.a24 R_i52 .done (St.mk (upd s 147 x1) o) K))) := rfl

theorem g_law17_BookMore_i50_sh {R_i51 : List Nat} {C : Ctx} {I : Nat → Prop} {s : Nat → V} {o : Nat → Option Ob} {K : St → Prop} : drawB C I g_law17_BookMore.a24 (26 :: R_i51) .done (St.mk s o) K =
 ((s 146) = V.undef ∧ guardK (s 145) true
 (∃ x1, SoundAt C 4 ⟨[], fun _ => none⟩ ⟨x1, fun _ => none⟩ ∧ (∀ n, V.refs n x1 = false) ∧ quietV o (x1 :: []) ∧
drawB C I g_law17_BookMore.a24 R_i51 .done (St.mk (upd s 146 x1) o) K)
 (quietV o ((V.tup []) :: []) ∧
drawB C I g_law17_BookMore.a24 R_i51 .done (St.mk (upd s 146 (V.tup [])) o) K)
 (quietV o ((V.tup []) :: []) ∧
drawB C I g_law17_BookMore.a24 R_i51 .done (St.mk (upd s 146 (V.tup [])) o) K)) := rfl

theorem g_law17_BookMore_i49_sh {R_i50 : List Nat} {C : Ctx} {I : Nat → Prop} {s : Nat → V} {o : Nat → Option Ob} {K : St → Prop} : drawB C I g_law17_BookMore.a24 (25 :: R_i50) .done (St.mk s o) K =
 ((s 145) = V.undef ∧ (quietV o ((s 144) :: [(s 144)]) ∧
drawB C I g_law17_BookMore.a24 R_i50 .done (St.mk (upd s 145 (s 144)) o) K)) := rfl

theorem g_law17_BookMore_i48_sh {R_i49 : List Nat} {C : Ctx} {I : Nat → Prop} {s : Nat → V} {o : Nat → Option Ob} {K : St → Prop} : drawB C I g_law17_BookMore.a24 (24 :: R_i49) .done (St.mk s o) K =
 ((s 144) = V.undef ∧ (demand (pickV (s 134) (s 143) (V.d (.bool false))) (fun x1 => quietV o (x1 :: [(s 134), (s 143), (V.d (.bool false))]) ∧
drawB C I g_law17_BookMore.a24 R_i49 .done (St.mk (upd s 144 x1) o) K))) := rfl

theorem g_law17_BookMore_i47_sh {R_i48 : List Nat} {C : Ctx} {I : Nat → Prop} {s : Nat → V} {o : Nat → Option Ob} {K : St → Prop} : drawB C I g_law17_BookMore.a24 (23 :: R_i48) .done (St.mk s o) K =
 ((s 143) = V.undef ∧ guardK (s 134) true
 (demand (binV BinOp.eql (s 138) (s 142)) (fun x1 => quietV o (x1 :: [(s 138), (s 142)]) ∧
drawB C I g_law17_BookMore.a24 R_i48 .done (St.mk (upd s 143 x1) o) K))
 (quietV o ((V.tup []) :: [(s 138), (s 142)]) ∧
drawB C I g_law17_BookMore.a24 R_i48 .done (St.mk (upd s 143 (V.tup [])) o) K)
 (quietV o ((V.tup []) :: [(s 138), (s 142)]) ∧
drawB C I g_law17_BookMore.a24 R_i48 .done (St.mk (upd s 143 (V.tup [])) o) K)) := rfl

theorem g_law17_BookMore_i46_sh {R_i47 : List Nat} {C : Ctx} {I : Nat → Prop} {s : Nat → V} {o : Nat → Option Ob} {K : St → Prop} : drawB C I g_law17_BookMore.a24 (22 :: R_i47) .done (St.mk s o) K =
 ((s 142) = V.undef ∧ guardK (s 134) true
 (∃ x1, SoundAt C 8 ⟨[(s 139), (s 140), (s 141)], fun _ => none⟩ ⟨x1, fun _ => none⟩ ∧ (∀ n, V.refs n x1 = false) ∧ quietV o (x1 :: [(s 139), (s 140), (s 141)]) ∧
drawB C I g_law17_BookMore.a24 R_i47 .done (St.mk (upd s 142 x1) o) K)
 (quietV o ((V.tup []) :: [(s 139), (s 140), (s 141)]) ∧
drawB C I g_law17_BookMore.a24 R_i47 .done (St.mk (upd s 142 (V.tup [])) o) K)
 (quietV o ((V.tup []) :: [(s 139), (s 140), (s 141)]) ∧
drawB C I g_law17_BookMore.a24 R_i47 .done (St.mk (upd s 142 (V.tup [])) o) K)) := rfl

theorem g_law17_BookMore_i45_sh {R_i46 : List Nat} {C : Ctx} {I : Nat → Prop} {s : Nat → V} {o : Nat → Option Ob} {K : St → Prop} : drawB C I g_law17_BookMore.a24 (21 :: R_i46) .done (St.mk s o) K =
 ((s 141) = V.undef ∧ guardK (s 134) true
 (quietV o ((s 3) :: [(s 3)]) ∧
drawB C I g_law17_BookMore.a24 R_i46 .done (St.mk (upd s 141 (s 3)) o) K)
 (quietV o ((V.tup []) :: [(s 3)]) ∧
drawB C I g_law17_BookMore.a24 R_i46 .done (St.mk (upd s 141 (V.tup [])) o) K)
 (quietV o ((V.tup []) :: [(s 3)]) ∧
drawB C I g_law17_BookMore.a24 R_i46 .done (St.mk (upd s 141 (V.tup [])) o) K)) := rfl

theorem g_law17_BookMore_i44_sh {R_i45 : List Nat} {C : Ctx} {I : Nat → Prop} {s : Nat → V} {o : Nat → Option Ob} {K : St → Prop} : drawB C I g_law17_BookMore.a24 (20 :: R_i45) .done (St.mk s o) K =
 ((s 140) = V.undef ∧ guardK (s 134) true
 (quietV o ((s 2) :: [(s 2)]) ∧
drawB C I g_law17_BookMore.a24 R_i45 .done (St.mk (upd s 140 (s 2)) o) K)
 (quietV o ((V.tup []) :: [(s 2)]) ∧
drawB C I g_law17_BookMore.a24 R_i45 .done (St.mk (upd s 140 (V.tup [])) o) K)
 (quietV o ((V.tup []) :: [(s 2)]) ∧
drawB C I g_law17_BookMore.a24 R_i45 .done (St.mk (upd s 140 (V.tup [])) o) K)) := rfl

theorem g_law17_BookMore_i43_sh {R_i44 : List Nat} {C : Ctx} {I : Nat → Prop} {s : Nat → V} {o : Nat → Option Ob} {K : St → Prop} : drawB C I g_law17_BookMore.a24 (19 :: R_i44) .done (St.mk s o) K =
 ((s 139) = V.undef ∧ guardK (s 134) true
 (demand (loadV o (some 1) (s 17)) (fun x1 => quietV o (x1 :: [(s 17)]) ∧
drawB C I g_law17_BookMore.a24 R_i44 .done (St.mk (upd s 139 x1) o) K))
 (quietV o ((V.tup []) :: [(s 17)]) ∧
drawB C I g_law17_BookMore.a24 R_i44 .done (St.mk (upd s 139 (V.tup [])) o) K)
 (quietV o ((V.tup []) :: [(s 17)]) ∧
drawB C I g_law17_BookMore.a24 R_i44 .done (St.mk (upd s 139 (V.tup [])) o) K)) := rfl

theorem g_law17_BookMore_i42_sh {R_i43 : List Nat} {C : Ctx} {I : Nat → Prop} {s : Nat → V} {o : Nat → Option Ob} {K : St → Prop} : drawB C I g_law17_BookMore.a24 (18 :: R_i43) .done (St.mk s o) K =
 ((s 138) = V.undef ∧ guardK (s 134) true
 (∃ x1, SoundAt C 8 ⟨[(s 135), (s 136), (s 137)], fun _ => none⟩ ⟨x1, fun _ => none⟩ ∧ (∀ n, V.refs n x1 = false) ∧ quietV o (x1 :: [(s 135), (s 136), (s 137)]) ∧
drawB C I g_law17_BookMore.a24 R_i43 .done (St.mk (upd s 138 x1) o) K)
 (quietV o ((V.tup []) :: [(s 135), (s 136), (s 137)]) ∧
drawB C I g_law17_BookMore.a24 R_i43 .done (St.mk (upd s 138 (V.tup [])) o) K)
 (quietV o ((V.tup []) :: [(s 135), (s 136), (s 137)]) ∧
drawB C I g_law17_BookMore.a24 R_i43 .done (St.mk (upd s 138 (V.tup [])) o) K)) := rfl

theorem g_law17_BookMore_i41_sh {R_i42 : List Nat} {C : Ctx} {I : Nat → Prop} {s : Nat → V} {o : Nat → Option Ob} {K : St → Prop} : drawB C I g_law17_BookMore.a24 (17 :: R_i42) .done (St.mk s o) K =
 ((s 137) = V.undef ∧ guardK (s 134) true
 (quietV o ((s 3) :: [(s 3)]) ∧
drawB C I g_law17_BookMore.a24 R_i42 .done (St.mk (upd s 137 (s 3)) o) K)
 (quietV o ((V.tup []) :: [(s 3)]) ∧
drawB C I g_law17_BookMore.a24 R_i42 .done (St.mk (upd s 137 (V.tup [])) o) K)
 (quietV o ((V.tup []) :: [(s 3)]) ∧
drawB C I g_law17_BookMore.a24 R_i42 .done (St.mk (upd s 137 (V.tup [])) o) K)) := rfl

theorem g_law17_BookMore_i40_sh {R_i41 : List Nat} {C : Ctx} {I : Nat → Prop} {s : Nat → V} {o : Nat → Option Ob} {K : St → Prop} : drawB C I g_law17_BookMore.a24 (16 :: R_i41) .done (St.mk s o) K =
 ((s 136) = V.undef ∧ guardK (s 134) true
 (quietV o ((s 2) :: [(s 2)]) ∧
drawB C I g_law17_BookMore.a24 R_i41 .done (St.mk (upd s 136 (s 2)) o) K)
 (quietV o ((V.tup []) :: [(s 2)]) ∧
drawB C I g_law17_BookMore.a24 R_i41 .done (St.mk (upd s 136 (V.tup [])) o) K)
 (quietV o ((V.tup []) :: [(s 2)]) ∧
drawB C I g_law17_BookMore.a24 R_i41 .done (St.mk (upd s 136 (V.tup [])) o) K)) := rfl

theorem g_law17_BookMore_i39_sh {R_i40 : List Nat} {C : Ctx} {I : Nat → Prop} {s : Nat → V} {o : Nat → Option Ob} {K : St → Prop} : drawB C I g_law17_BookMore.a24 (15 :: R_i40) .done (St.mk s o) K =
 ((s 135) = V.undef ∧ guardK (s 134) true
 (demand (loadV o (some 1) (s 5)) (fun x1 => quietV o (x1 :: [(s 5)]) ∧
drawB C I g_law17_BookMore.a24 R_i40 .done (St.mk (upd s 135 x1) o) K))
 (quietV o ((V.tup []) :: [(s 5)]) ∧
drawB C I g_law17_BookMore.a24 R_i40 .done (St.mk (upd s 135 (V.tup [])) o) K)
 (quietV o ((V.tup []) :: [(s 5)]) ∧
drawB C I g_law17_BookMore.a24 R_i40 .done (St.mk (upd s 135 (V.tup [])) o) K)) := rfl

theorem g_law17_BookMore_i38_sh {R_i39 : List Nat} {C : Ctx} {I : Nat → Prop} {s : Nat → V} {o : Nat → Option Ob} {K : St → Prop} : drawB C I g_law17_BookMore.a24 (14 :: R_i39) .done (St.mk s o) K =
 ((s 134) = V.undef ∧ (quietV o ((s 133) :: [(s 133)]) ∧
drawB C I g_law17_BookMore.a24 R_i39 .done (St.mk (upd s 134 (s 133)) o) K)) := rfl

theorem g_law17_BookMore_i37_sh {R_i38 : List Nat} {C : Ctx} {I : Nat → Prop} {s : Nat → V} {o : Nat → Option Ob} {K : St → Prop} : drawB C I g_law17_BookMore.a24 (13 :: R_i38) .done (St.mk s o) K =
 ((s 133) = V.undef ∧ (demand (pickV (s 123) (s 132) (V.d (.bool false))) (fun x1 => quietV o (x1 :: [(s 123), (s 132), (V.d (.bool false))]) ∧
drawB C I g_law17_BookMore.a24 R_i38 .done (St.mk (upd s 133 x1) o) K))) := rfl

theorem g_law17_BookMore_i36_sh {R_i37 : List Nat} {C : Ctx} {I : Nat → Prop} {s : Nat → V} {o : Nat → Option Ob} {K : St → Prop} : drawB C I g_law17_BookMore.a24 (12 :: R_i37) .done (St.mk s o) K =
 ((s 132) = V.undef ∧ guardK (s 123) true
 (demand (eqsV false [0, 0, 0] (s 127) (s 131)) (fun x1 => quietV o (x1 :: [(s 127), (s 131)]) ∧
drawB C I g_law17_BookMore.a24 R_i37 .done (St.mk (upd s 132 x1) o) K))
 (quietV o ((V.tup []) :: [(s 127), (s 131)]) ∧
drawB C I g_law17_BookMore.a24 R_i37 .done (St.mk (upd s 132 (V.tup [])) o) K)
 (quietV o ((V.tup []) :: [(s 127), (s 131)]) ∧
drawB C I g_law17_BookMore.a24 R_i37 .done (St.mk (upd s 132 (V.tup [])) o) K)) := rfl

theorem g_law17_BookMore_i35_sh {R_i36 : List Nat} {C : Ctx} {I : Nat → Prop} {s : Nat → V} {o : Nat → Option Ob} {K : St → Prop} : drawB C I g_law17_BookMore.a24 (11 :: R_i36) .done (St.mk s o) K =
 ((s 131) = V.undef ∧ guardK (s 123) true
 (∃ x1, SoundAt C 28 ⟨[(s 128), (s 129), (s 130)], fun _ => none⟩ ⟨x1, fun _ => none⟩ ∧ (∀ n, V.refs n x1 = false) ∧ quietV o (x1 :: [(s 128), (s 129), (s 130)]) ∧
drawB C I g_law17_BookMore.a24 R_i36 .done (St.mk (upd s 131 x1) o) K)
 (quietV o ((V.tup []) :: [(s 128), (s 129), (s 130)]) ∧
drawB C I g_law17_BookMore.a24 R_i36 .done (St.mk (upd s 131 (V.tup [])) o) K)
 (quietV o ((V.tup []) :: [(s 128), (s 129), (s 130)]) ∧
drawB C I g_law17_BookMore.a24 R_i36 .done (St.mk (upd s 131 (V.tup [])) o) K)) := rfl

theorem g_law17_BookMore_i34_sh {R_i35 : List Nat} {C : Ctx} {I : Nat → Prop} {s : Nat → V} {o : Nat → Option Ob} {K : St → Prop} : drawB C I g_law17_BookMore.a24 (10 :: R_i35) .done (St.mk s o) K =
 ((s 130) = V.undef ∧ guardK (s 123) true
 (quietV o ((s 3) :: [(s 3)]) ∧
drawB C I g_law17_BookMore.a24 R_i35 .done (St.mk (upd s 130 (s 3)) o) K)
 (quietV o ((V.tup []) :: [(s 3)]) ∧
drawB C I g_law17_BookMore.a24 R_i35 .done (St.mk (upd s 130 (V.tup [])) o) K)
 (quietV o ((V.tup []) :: [(s 3)]) ∧
drawB C I g_law17_BookMore.a24 R_i35 .done (St.mk (upd s 130 (V.tup [])) o) K)) := rfl

theorem g_law17_BookMore_i33_sh {R_i34 : List Nat} {C : Ctx} {I : Nat → Prop} {s : Nat → V} {o : Nat → Option Ob} {K : St → Prop} : drawB C I g_law17_BookMore.a24 (9 :: R_i34) .done (St.mk s o) K =
 ((s 129) = V.undef ∧ guardK (s 123) true
 (quietV o ((s 2) :: [(s 2)]) ∧
drawB C I g_law17_BookMore.a24 R_i34 .done (St.mk (upd s 129 (s 2)) o) K)
 (quietV o ((V.tup []) :: [(s 2)]) ∧
drawB C I g_law17_BookMore.a24 R_i34 .done (St.mk (upd s 129 (V.tup [])) o) K)
 (quietV o ((V.tup []) :: [(s 2)]) ∧
drawB C I g_law17_BookMore.a24 R_i34 .done (St.mk (upd s 129 (V.tup [])) o) K)) := rfl

theorem g_law17_BookMore_i32_sh {R_i33 : List Nat} {C : Ctx} {I : Nat → Prop} {s : Nat → V} {o : Nat → Option Ob} {K : St → Prop} : drawB C I g_law17_BookMore.a24 (8 :: R_i33) .done (St.mk s o) K =
 ((s 128) = V.undef ∧ guardK (s 123) true
 (demand (loadV o (some 1) (s 17)) (fun x1 => quietV o (x1 :: [(s 17)]) ∧
drawB C I g_law17_BookMore.a24 R_i33 .done (St.mk (upd s 128 x1) o) K))
 (quietV o ((V.tup []) :: [(s 17)]) ∧
drawB C I g_law17_BookMore.a24 R_i33 .done (St.mk (upd s 128 (V.tup [])) o) K)
 (quietV o ((V.tup []) :: [(s 17)]) ∧
drawB C I g_law17_BookMore.a24 R_i33 .done (St.mk (upd s 128 (V.tup [])) o) K)) := rfl

theorem g_law17_BookMore_i31_sh {R_i32 : List Nat} {C : Ctx} {I : Nat → Prop} {s : Nat → V} {o : Nat → Option Ob} {K : St → Prop} : drawB C I g_law17_BookMore.a24 (7 :: R_i32) .done (St.mk s o) K =
 ((s 127) = V.undef ∧ guardK (s 123) true
 (∃ x1, SoundAt C 28 ⟨[(s 124), (s 125), (s 126)], fun _ => none⟩ ⟨x1, fun _ => none⟩ ∧ (∀ n, V.refs n x1 = false) ∧ quietV o (x1 :: [(s 124), (s 125), (s 126)]) ∧
drawB C I g_law17_BookMore.a24 R_i32 .done (St.mk (upd s 127 x1) o) K)
 (quietV o ((V.tup []) :: [(s 124), (s 125), (s 126)]) ∧
drawB C I g_law17_BookMore.a24 R_i32 .done (St.mk (upd s 127 (V.tup [])) o) K)
 (quietV o ((V.tup []) :: [(s 124), (s 125), (s 126)]) ∧
drawB C I g_law17_BookMore.a24 R_i32 .done (St.mk (upd s 127 (V.tup [])) o) K)) := rfl

theorem g_law17_BookMore_i30_sh {R_i31 : List Nat} {C : Ctx} {I : Nat → Prop} {s : Nat → V} {o : Nat → Option Ob} {K : St → Prop} : drawB C I g_law17_BookMore.a24 (6 :: R_i31) .done (St.mk s o) K =
 ((s 126) = V.undef ∧ guardK (s 123) true
 (quietV o ((s 3) :: [(s 3)]) ∧
drawB C I g_law17_BookMore.a24 R_i31 .done (St.mk (upd s 126 (s 3)) o) K)
 (quietV o ((V.tup []) :: [(s 3)]) ∧
drawB C I g_law17_BookMore.a24 R_i31 .done (St.mk (upd s 126 (V.tup [])) o) K)
 (quietV o ((V.tup []) :: [(s 3)]) ∧
drawB C I g_law17_BookMore.a24 R_i31 .done (St.mk (upd s 126 (V.tup [])) o) K)) := rfl

theorem g_law17_BookMore_i29_sh {R_i30 : List Nat} {C : Ctx} {I : Nat → Prop} {s : Nat → V} {o : Nat → Option Ob} {K : St → Prop} : drawB C I g_law17_BookMore.a24 (5 :: R_i30) .done (St.mk s o) K =
 ((s 125) = V.undef ∧ guardK (s 123) true
 (quietV o ((s 2) :: [(s 2)]) ∧
drawB C I g_law17_BookMore.a24 R_i30 .done (St.mk (upd s 125 (s 2)) o) K)
 (quietV o ((V.tup []) :: [(s 2)]) ∧
drawB C I g_law17_BookMore.a24 R_i30 .done (St.mk (upd s 125 (V.tup [])) o) K)
 (quietV o ((V.tup []) :: [(s 2)]) ∧
drawB C I g_law17_BookMore.a24 R_i30 .done (St.mk (upd s 125 (V.tup [])) o) K)) := rfl

theorem g_law17_BookMore_i28_sh {R_i29 : List Nat} {C : Ctx} {I : Nat → Prop} {s : Nat → V} {o : Nat → Option Ob} {K : St → Prop} : drawB C I g_law17_BookMore.a24 (4 :: R_i29) .done (St.mk s o) K =
 ((s 124) = V.undef ∧ guardK (s 123) true
 (demand (loadV o (some 1) (s 5)) (fun x1 => quietV o (x1 :: [(s 5)]) ∧
drawB C I g_law17_BookMore.a24 R_i29 .done (St.mk (upd s 124 x1) o) K))
 (quietV o ((V.tup []) :: [(s 5)]) ∧
drawB C I g_law17_BookMore.a24 R_i29 .done (St.mk (upd s 124 (V.tup [])) o) K)
 (quietV o ((V.tup []) :: [(s 5)]) ∧
drawB C I g_law17_BookMore.a24 R_i29 .done (St.mk (upd s 124 (V.tup [])) o) K)) := rfl

theorem g_law17_BookMore_i27_sh {R_i28 : List Nat} {C : Ctx} {I : Nat → Prop} {s : Nat → V} {o : Nat → Option Ob} {K : St → Prop} : drawB C I g_law17_BookMore.a24 (3 :: R_i28) .done (St.mk s o) K =
 ((s 123) = V.undef ∧ (quietV o ((s 122) :: [(s 122)]) ∧
drawB C I g_law17_BookMore.a24 R_i28 .done (St.mk (upd s 123 (s 122)) o) K)) := rfl

theorem g_law17_BookMore_i26_sh {R_i27 : List Nat} {C : Ctx} {I : Nat → Prop} {s : Nat → V} {o : Nat → Option Ob} {K : St → Prop} : drawB C I g_law17_BookMore.a24 (2 :: R_i27) .done (St.mk s o) K =
 ((s 122) = V.undef ∧ (∃ x1, SoundAt C 27 ⟨[(s 120), (s 121)], fun _ => none⟩ ⟨x1, fun _ => none⟩ ∧ (∀ n, V.refs n x1 = false) ∧ quietV o (x1 :: [(s 120), (s 121)]) ∧
drawB C I g_law17_BookMore.a24 R_i27 .done (St.mk (upd s 122 x1) o) K)) := rfl

theorem g_law17_BookMore_i25_sh {R_i26 : List Nat} {C : Ctx} {I : Nat → Prop} {s : Nat → V} {o : Nat → Option Ob} {K : St → Prop} : drawB C I g_law17_BookMore.a24 (1 :: R_i26) .done (St.mk s o) K =
 ((s 121) = V.undef ∧ (demand (loadV o (some 5) (s 20)) (fun x1 => quietV o (x1 :: [(s 20)]) ∧
drawB C I g_law17_BookMore.a24 R_i26 .done (St.mk (upd s 121 x1) o) K))) := rfl

theorem g_law17_BookMore_c6_sh {C : Ctx} {I : Nat → Prop} {s : Nat → V} {o : Nat → Option Ob} {Q : Ex → St → Prop} : wpB C I (.ret) (St.mk s o) Q =
 (Q .ret (St.mk s o)) := rfl

theorem g_law17_BookMore_c7_sh {R_i25 : List Nat} {R_c6 : ACode} {C : Ctx} {I : Nat → Prop} {s : Nat → V} {o : Nat → Option Ob} {Q : Ex → St → Prop} : wpB C I (.seq (.region [10] (some []) (some (0 :: R_i25, .done)) g_law17_BookMore.a24)
 (R_c6)) (St.mk s o) Q =
 ((s 120) = V.undef ∧ (demand (loadV o (some 5) (s 19)) (fun x1 => quietV o (x1 :: [(s 19)]) ∧
drawB C I g_law17_BookMore.a24 R_i25 .done (St.mk (upd s 120 x1) o) (fun st => (seqK (fun st => wpB C I R_c6 st Q) Q) .normal (St.trim st [10] (some [])))))) := rfl

theorem g_law17_BookMore_c8_sh {R_l1 : ACode} {R_c7 : ACode} {C : Ctx} {I : Nat → Prop} {s : Nat → V} {o : Nat → Option Ob} {Q : Ex → St → Prop} : wpB C I (.seq (.seq (.region [2, 3, 5, 17, 19, 20, 21, 22, 106, 107] (some [5, 17, 19, 20]) none
     [⟨some 105, .mv (.t 21), [], [], none, none⟩,
      ⟨some 106, .len (.t 105), [], [], none, none⟩,
      ⟨some 107, .mv (.c (.d (.int .i64 0))), [], [], none, none⟩])
  (.block 2 [2, 3, 5, 17, 19, 20] (some [5, 17, 19, 20]) (R_l1)))
 (R_c7)) (St.mk s o) Q =
 (demand (lenV o (s 21)) (fun x1 =>
wpB C I R_l1 (St.mk (look [(2, (s 2)), (3, (s 3)), (5, (s 5)), (17, (s 17)), (19, (s 19)), (20, (s 20)), (21, (s 21)), (22, (s 22)), (106, x1), (107, (V.d (.int .i64 0)))]) (looko ([5, 17, 19, 20].map fun n => (n, o n)))) (blockK 2 [2, 3, 5, 17, 19, 20] (some [5, 17, 19, 20]) (seqK (fun st => wpB C I R_c7 st Q) Q)))) := rfl

theorem g_law17_BookMore_c9_sh {R_o22 : List AOper} {R_c4 : ACode} {R_c8 : ACode} {C : Ctx} {I : Nat → Prop} {s : Nat → V} {o : Nat → Option Ob} {Q : Ex → St → Prop} : wpB C I (.seq (.seq (.region [2, 3, 5, 17, 19, 20, 21, 22, 104] (some [5, 17, 19, 20]) none
     (⟨some 93, .mv (.t 21), [], [], none, none⟩ ::
      ⟨some 94, .len (.t 93), [], [], none, none⟩ ::
      ⟨some 95, .mv (.t 22), [], [], none, none⟩ ::
      ⟨some 96, .len (.t 95), [], [], none, none⟩ ::
      ⟨some 97, .bin .neq (.t 94) (.t 96), [], [], none, none⟩ ::
      ⟨some 98, .mv (.t 97), [], [], none, (some ([2, 3, 4, 5, 17, 19, 20, 21, 22, 98], (some [5, 17, 19, 20])))⟩ ::
      R_o22))
  (R_c4))
 (R_c8)) (St.mk s o) Q =
 (demand (lenV o (s 21)) (fun x1 =>
demand (lenV o (s 22)) (fun x2 =>
demand (binV BinOp.neq x1 x2) (fun x3 =>
opsB C I R_o22 (St.mk (look [(2, (s 2)), (3, (s 3)), (4, (s 4)), (5, (s 5)), (17, (s 17)), (19, (s 19)), (20, (s 20)), (21, (s 21)), (22, (s 22)), (98, x3)]) (looko ([5, 17, 19, 20].map fun n => (n, o n)))) (fun st => (seqK (fun st => wpB C I R_c4 st (seqK (fun st => wpB C I R_c8 st Q) Q)) (seqK (fun st => wpB C I R_c8 st Q) Q)) .normal (St.trim st [2, 3, 5, 17, 19, 20, 21, 22, 104] (some [5, 17, 19, 20]))))))) := rfl

theorem g_law17_BookMore_c10_sh {R_c9 : ACode} {C : Ctx} {I : Nat → Prop} {s : Nat → V} {o : Nat → Option Ob} {Q : Ex → St → Prop} : wpB C I (.seq (.region [2, 3, 4, 5, 17, 19, 20, 21, 22] (some [5, 17, 19, 20]) (some ([0, 1, 2, 3, 4, 5, 6, 7, 8, 9], .done))
    [⟨some 85, .load (some 1) (.t 5), [], [], none, none⟩,
     ⟨some 86, .mv (.t 2), [], [], none, none⟩,
     ⟨some 87, .mv (.t 4), [], [], none, none⟩,
     ⟨some 88, .call 26 [(.t 85), (.t 86), (.t 87)], [], [0, 1, 2], none, none⟩,
     ⟨some 89, .load (some 1) (.t 17), [], [], none, none⟩,
     ⟨some 90, .mv (.t 2), [], [], none, none⟩,
     ⟨some 91, .mv (.t 4), [], [], none, none⟩,
     ⟨some 92, .call 26 [(.t 89), (.t 90), (.t 91)], [], [4, 5, 6, 3], none, none⟩,
     ⟨some 21, .mv (.t 88), [], [3, 7, 0, 1, 2, 3], none, none⟩,
     ⟨some 22, .mv (.t 92), [], [7, 8, 0, 1, 2, 3, 4, 5, 6, 7, 8], none, none⟩])
 (R_c9)) (St.mk s o) Q =
 ((s 85) = V.undef ∧ (demand (loadV o (some 1) (s 5)) (fun x1 => quietV o (x1 :: [(s 5)]) ∧
(s 86) = V.undef ∧ (quietV o ((s 2) :: [(s 2)]) ∧
(s 87) = V.undef ∧ (quietV o ((s 4) :: [(s 4)]) ∧
(s 88) = V.undef ∧ (∃ x4, SoundAt C 26 ⟨[x1, (s 2), (s 4)], fun _ => none⟩ ⟨x4, fun _ => none⟩ ∧ (∀ n, V.refs n x4 = false) ∧ quietV o (x4 :: [x1, (s 2), (s 4)]) ∧
(s 89) = V.undef ∧ (demand (loadV o (some 1) (s 17)) (fun x5 => quietV o (x5 :: [(s 17)]) ∧
(s 90) = V.undef ∧ (quietV o ((s 2) :: [(s 2)]) ∧
(s 91) = V.undef ∧ (quietV o ((s 4) :: [(s 4)]) ∧
(s 92) = V.undef ∧ (∃ x8, SoundAt C 26 ⟨[x5, (s 2), (s 4)], fun _ => none⟩ ⟨x8, fun _ => none⟩ ∧ (∀ n, V.refs n x8 = false) ∧ quietV o (x8 :: [x5, (s 2), (s 4)]) ∧
(s 21) = V.undef ∧ (quietV o (x4 :: [x4]) ∧
(s 22) = V.undef ∧ (quietV o (x8 :: [x8]) ∧
wpB C I R_c9 (St.mk (look [(2, (s 2)), (3, (s 3)), (4, (s 4)), (5, (s 5)), (17, (s 17)), (19, (s 19)), (20, (s 20)), (21, x4), (22, x8)]) (looko ([5, 17, 19, 20].map fun n => (n, o n)))) Q))))))))))))) := rfl

theorem g_law17_BookMore_c11_sh {R_i7 : List Nat} {R_t21 : Tr} {R_c10 : ACode} {C : Ctx} {I : Nat → Prop} {s : Nat → V} {o : Nat → Option Ob} {Q : Ex → St → Prop} : wpB C I (.seq (.region [2, 3, 4, 5, 17, 19, 20] (some [5, 17, 19, 20]) (some (0 :: R_i7, R_t21)) g_law17_BookMore.a6)
 (R_c10)) (St.mk s o) Q =
 ((s 75) = V.undef ∧ (demand (loadV o (some 1) (s 5)) (fun x1 => quietV o (x1 :: [(s 5)]) ∧
drawB C I g_law17_BookMore.a6 R_i7 R_t21 (St.mk (upd s 75 x1) o) (fun st => (seqK (fun st => wpB C I R_c10 st Q) Q) .normal (St.trim st [2, 3, 4, 5, 17, 19, 20] (some [5, 17, 19, 20])))))) := rfl

theorem g_law17_BookMore_c12_sh {R_c11 : ACode} {C : Ctx} {I : Nat → Prop} {s : Nat → V} {o : Nat → Option Ob} {Q : Ex → St → Prop} : wpB C I (.seq (.region [2, 3, 4, 5, 17] (some [5, 17]) none
    [⟨some 70, .load (some 1) (.t 5), [], [], none, none⟩,
     ⟨some 71, .load (some 22) (.t 6), [], [], none, none⟩,
     ⟨some 72, .call 5 [(.t 70), (.t 71)], [], [], none, none⟩,
     ⟨some 69, .mv (.t 72), [], [], none, none⟩,
     ⟨some 73, .ext (.t 69) 0, [], [], none, none⟩,
     ⟨some 74, .ext (.t 69) 1, [], [], none, none⟩,
     ⟨some 17, .alloc 17 [.cap0], [], [], none, none⟩,
     ⟨none, .store 1 (.t 17) (.t 73), [], [], none, none⟩,
     ⟨some 18, .mv (.t 74), [], [], none, none⟩])
 (R_c11)) (St.mk s o) Q =
 (demand (loadV o (some 1) (s 5)) (fun x1 =>
demand (loadV o (some 22) (s 6)) (fun x2 =>
callK C I (St.mk (upd (upd s 70 x1) 71 x2) o) (some 72) 5 [x1, x2] (fun r3 or3 =>
demand (extV r3 0) (fun x4 =>
demand (extV r3 1) (fun x5 =>
(¬ I 17 ∧ Fresh (St.mk (upd (upd (upd (upd (upd (upd s 70 x1) 71 x2) 72 r3) 69 r3) 73 x4) 74 x5) or3) 17 (some 17) ∧ V.refsL 17 [V.cap0] = false ∧
storeK (V.ptr 17 0) (cellsV x4) 1 (upd or3 17 (some (Ob.box [V.cap0]))) (fun m6 ob7 =>
wpB C I R_c11 (St.mk (look [(2, (s 2)), (3, (s 3)), (4, (s 4)), (5, (s 5)), (17, (V.ptr 17 0))]) (looko ([5, 17].map fun n => (n, (upd (upd or3 17 (some (Ob.box [V.cap0]))) m6 (some ob7)) n)))) Q)))))))) := rfl

theorem g_law17_BookMore_c13_sh {R_c3 : ACode} {R_c12 : ACode} {C : Ctx} {I : Nat → Prop} {s : Nat → V} {o : Nat → Option Ob} {Q : Ex → St → Prop} : wpB C I (.seq (.seq (.region [2, 3, 4, 5, 6, 55, 56, 57] (some [5, 6]) none
     [⟨some 54, .faddr 0 (.t 5), [], [], none, none⟩,
      ⟨some 55, .load none (.t 54), [], [], none, none⟩,
      ⟨some 56, .len (.t 55), [], [], none, none⟩,
      ⟨some 57, .mv (.c (.d (.int .i64 0))), [], [], none, none⟩])
  (R_c3))
 (R_c12)) (St.mk s o) Q =
 (demand (faddrV 0 (s 5)) (fun x1 =>
demand (loadV o none x1) (fun x2 =>
demand (lenV o x2) (fun x3 =>
wpB C I R_c3 (St.mk (look [(2, (s 2)), (3, (s 3)), (4, (s 4)), (5, (s 5)), (6, (s 6)), (55, x2), (56, x3), (57, (V.d (.int .i64 0)))]) (looko ([5, 6].map fun n => (n, o n)))) (seqK (fun st => wpB C I R_c12 st Q) Q))))) := rfl

theorem g_law17_BookMore_c14_sh {R_o0 : List AOper} {R_c0 : ACode} {R_c13 : ACode} {C : Ctx} {I : Nat → Prop} {s : Nat → V} {o : Nat → Option Ob} {Q : Ex → St → Prop} : wpB C I (.seq (.seq (.region [2, 3, 4, 5, 6, 52] (some [5, 6]) none
     (⟨some 36, .mv (.t 12), [], [], none, none⟩ ::
      ⟨some 37, .un .not (.t 36), [], [], none, none⟩ ::
      ⟨some 38, .mv (.t 37), [], [], none, (some ([2, 3, 4, 5, 6, 14, 38], (some [5, 6])))⟩ ::
      R_o0))
  (R_c0))
 (R_c13)) (St.mk s o) Q =
 (demand (unV UnOp.not (s 12)) (fun x1 =>
opsB C I R_o0 (St.mk (look [(2, (s 2)), (3, (s 3)), (4, (s 4)), (5, (s 5)), (6, (s 6)), (14, (s 14)), (38, x1)]) (looko ([5, 6].map fun n => (n, o n)))) (fun st => (seqK (fun st => wpB C I R_c0 st (seqK (fun st => wpB C I R_c13 st Q) Q)) (seqK (fun st => wpB C I R_c13 st Q) Q)) .normal (St.trim st [2, 3, 4, 5, 6, 52] (some [5, 6]))))) := rfl

theorem g_law17_BookMore_c15_sh {R_c14 : ACode} {C : Ctx} {I : Nat → Prop} {s : Nat → V} {o : Nat → Option Ob} {Q : Ex → St → Prop} : wpB C I (.seq (.region [2, 3, 4, 5, 6, 12, 14] (some [5, 6]) none
    [⟨some 30, .load (some 22) (.t 6), [], [], none, none⟩,
     ⟨some 31, .bsl none 22 [] 1 [(0, (.t 30))], [], [], none, none⟩,
     ⟨some 32, .build [.cap0] [(0, 1, (.t 31))], [], [], none, none⟩,
     ⟨some 33, .call 3 [(.t 32)], [], [], none, none⟩,
     ⟨some 29, .mv (.t 33), [], [], none, none⟩,
     ⟨some 34, .ext (.t 29) 0, [], [], none, none⟩,
     ⟨some 35, .ext (.t 29) 1, [], [], none, none⟩,
     ⟨some 13, .mv (.t 34), [], [], none, none⟩,
     ⟨some 14, .mv (.t 35), [], [], none, none⟩])
 (R_c14)) (St.mk s o) Q =
 (demand (loadV o (some 22) (s 6)) (fun x1 =>
lstK (partsN 22 [x1]) (fun es2 =>
demand ((buildN [V.cap0] [(0, 1, (V.d (D.sl es2)))]).map V.agg) (fun x3 =>
callK C I (St.mk (upd (upd (upd s 30 x1) 31 (V.d (D.sl es2))) 32 x3) o) (some 33) 3 [x3] (fun r4 or4 =>
demand (extV r4 0) (fun x5 =>
demand (extV r4 1) (fun x6 =>
wpB C I R_c14 (St.mk (look [(2, (s 2)), (3, (s 3)), (4, (s 4)), (5, (s 5)), (6, (s 6)), (12, (s 12)), (14, x6)]) (looko ([5, 6].map fun n => (n, or4 n)))) Q))))))) := rfl

theorem g_law17_BookMore_code_sh {R_c15 : ACode} {C : Ctx} {I : Nat → Prop} {s : Nat → V} {o : Nat → Option Ob} {Q : Ex → St → Prop} : wpB C I (.seq (.region [2, 3, 4, 5, 6] (some [5, 6]) none
    [⟨some 5, .box 5 1 (.t 0), [], [], none, none⟩,
     ⟨some 6, .box 6 22 (.t 1), [], [], none, none⟩,
     ⟨some 10, .mv (.c (.d (.bool false))), [], [], none, none⟩])
 (.seq (.region [2, 3, 4, 5, 6, 12] (some [5, 6]) none
     [⟨some 25, .load (some 1) (.t 5), [], [], none, none⟩,
      ⟨some 26, .call 3 [(.t 25)], [], [], none, none⟩,
      ⟨some 24, .mv (.t 26), [], [], none, none⟩,
      ⟨some 27, .ext (.t 24) 0, [], [], none, none⟩,
      ⟨some 28, .ext (.t 24) 1, [], [], none, none⟩,
      ⟨some 11, .mv (.t 27), [], [], none, none⟩,
      ⟨some 12, .mv (.t 28), [], [], none, none⟩])
  (R_c15))) (St.mk s o) Q =
 (lstK (cellsV (s 0)) (fun c1 => c1.length = 1 ∧ ¬ I 5 ∧ Fresh (St.mk s o) 5 (some 5) ∧ V.refsL 5 c1 = false ∧
lstK (cellsV (s 1)) (fun c2 => c2.length = 22 ∧ ¬ I 6 ∧ Fresh (St.mk (upd s 5 (V.ptr 5 0)) (upd o 5 (some (Ob.box c1)))) 6 (some 6) ∧ V.refsL 6 c2 = false ∧
demand (loadV (looko ([5, 6].map fun n => (n, (upd (upd o 5 (some (Ob.box c1))) 6 (some (Ob.box c2))) n))) (some 1) (V.ptr 5 0)) (fun x3 =>
callK C I (St.mk (upd (look [(2, (s 2)), (3, (s 3)), (4, (s 4)), (5, (V.ptr 5 0)), (6, (V.ptr 6 0))]) 25 x3) (looko ([5, 6].map fun n => (n, (upd (upd o 5 (some (Ob.box c1))) 6 (some (Ob.box c2))) n)))) (some 26) 3 [x3] (fun r4 or4 =>
demand (extV r4 0) (fun x5 =>
demand (extV r4 1) (fun x6 =>
wpB C I R_c15 (St.mk (look [(2, (s 2)), (3, (s 3)), (4, (s 4)), (5, (V.ptr 5 0)), (6, (V.ptr 6 0)), (12, x6)]) (looko ([5, 6].map fun n => (n, or4 n)))) Q))))))) := rfl

theorem g_law17_refs_o7_sh {C : Ctx} {I : Nat → Prop} {s : Nat → V} {o : Nat → Option Ob} {K : St → Prop} : opsB C I [⟨some 49, .pick (.t 43) (.c (.d (.bool true))) (.t 48), [], [], none, none⟩] (St.mk s o) K =
 (demand (pickV (s 43) (V.d (.bool true)) (s 48)) (fun x1 =>
K (St.mk (upd s 49 x1) o))) := rfl

theorem g_law17_refs_o6_sh {R_o7 : List AOper} {C : Ctx} {I : Nat → Prop} {s : Nat → V} {o : Nat → Option Ob} {K : St → Prop} : opsB C I (⟨some 44, .faddr 5 (.t 6), [], [], (some (25, 43, false)), none⟩ ::
     ⟨some 45, .faddr 15 (.t 44), [], [], (some (25, 43, false)), none⟩ ::
     ⟨some 46, .load none (.t 45), [], [], (some (25, 43, false)), none⟩ ::
     ⟨some 47, .len (.t 46), [], [], (some (25, 43, false)), none⟩ ::
     ⟨some 48, .bin .gtr (.t 47) (.c (.d (.int .i64 40))), [], [], (some (25, 43, false)), (some ([4, 6, 12, 13, 14, 43, 48], (some [6, 54])))⟩ ::
     R_o7) (St.mk s o) K =
 (guardK (s 43) false
 (demand (faddrV 5 (s 6)) (fun x1 =>
demand (faddrV 15 x1) (fun x2 =>
demand (loadV o none x2) (fun x3 =>
demand (lenV o x3) (fun x4 =>
demand (binV BinOp.gtr x4 (V.d (.int .i64 40))) (fun x5 =>
opsB C I R_o7 (St.mk (look [(4, (s 4)), (6, (s 6)), (12, (s 12)), (13, (s 13)), (14, (s 14)), (43, (V.d (D.bool false))), (48, x5)]) (looko ([6, 54].map fun n => (n, o n)))) K))))))
 (opsB C I R_o7 (St.mk (look [(4, (s 4)), (6, (s 6)), (12, (s 12)), (13, (s 13)), (14, (s 14)), (43, (V.d (D.bool true))), (48, (V.tup []))]) (looko ([6, 54].map fun n => (n, o n)))) K)
 (opsB C I R_o7 (St.mk (look [(4, (s 4)), (6, (s 6)), (12, (s 12)), (13, (s 13)), (14, (s 14)), (43, (V.tup [])), (48, (V.tup []))]) (looko ([6, 54].map fun n => (n, o n)))) K)) := rfl

theorem g_law17_refs_o5_sh {R_o6 : List AOper} {C : Ctx} {I : Nat → Prop} {s : Nat → V} {o : Nat → Option Ob} {K : St → Prop} : opsB C I (⟨some 42, .pick (.t 36) (.c (.d (.bool true))) (.t 41), [], [], none, none⟩ ::
     ⟨some 43, .mv (.t 42), [], [], none, (some ([4, 6, 12, 13, 14, 43], (some [6, 54])))⟩ ::
     R_o6) (St.mk s o) K =
 (demand (pickV (s 36) (V.d (.bool true)) (s 41)) (fun x1 =>
opsB C I R_o6 (St.mk (look [(4, (s 4)), (6, (s 6)), (12, (s 12)), (13, (s 13)), (14, (s 14)), (43, x1)]) (looko ([6, 54].map fun n => (n, o n)))) K)) := rfl

theorem g_law17_refs_o4_sh {R_o5 : List AOper} {C : Ctx} {I : Nat → Prop} {s : Nat → V} {o : Nat → Option Ob} {K : St → Prop} : opsB C I (⟨some 37, .faddr 5 (.t 6), [], [], (some (18, 36, false)), none⟩ ::
     ⟨some 38, .faddr 14 (.t 37), [], [], (some (18, 36, false)), none⟩ ::
     ⟨some 39, .load none (.t 38), [], [], (some (18, 36, false)), none⟩ ::
     ⟨some 40, .len (.t 39), [], [], (some (18, 36, false)), none⟩ ::
     ⟨some 41, .bin .gtr (.t 40) (.c (.d (.int .i64 40))), [], [], (some (18, 36, false)), (some ([4, 6, 12, 13, 14, 36, 41], (some [6, 54])))⟩ ::
     R_o5) (St.mk s o) K =
 (guardK (s 36) false
 (demand (faddrV 5 (s 6)) (fun x1 =>
demand (faddrV 14 x1) (fun x2 =>
demand (loadV o none x2) (fun x3 =>
demand (lenV o x3) (fun x4 =>
demand (binV BinOp.gtr x4 (V.d (.int .i64 40))) (fun x5 =>
opsB C I R_o5 (St.mk (look [(4, (s 4)), (6, (s 6)), (12, (s 12)), (13, (s 13)), (14, (s 14)), (36, (V.d (D.bool false))), (41, x5)]) (looko ([6, 54].map fun n => (n, o n)))) K))))))
 (opsB C I R_o5 (St.mk (look [(4, (s 4)), (6, (s 6)), (12, (s 12)), (13, (s 13)), (14, (s 14)), (36, (V.d (D.bool true))), (41, (V.tup []))]) (looko ([6, 54].map fun n => (n, o n)))) K)
 (opsB C I R_o5 (St.mk (look [(4, (s 4)), (6, (s 6)), (12, (s 12)), (13, (s 13)), (14, (s 14)), (36, (V.tup [])), (41, (V.tup []))]) (looko ([6, 54].map fun n => (n, o n)))) K)) := rfl

theorem g_law17_refs_o3_sh {R_o4 : List AOper} {C : Ctx} {I : Nat → Prop} {s : Nat → V} {o : Nat → Option Ob} {K : St → Prop} : opsB C I (⟨some 35, .pick (.t 29) (.c (.d (.bool true))) (.t 34), [], [], none, none⟩ ::
     ⟨some 36, .mv (.t 35), [], [], none, (some ([4, 6, 12, 13, 14, 36], (some [6, 54])))⟩ ::
     R_o4) (St.mk s o) K =
 (demand (pickV (s 29) (V.d (.bool true)) (s 34)) (fun x1 =>
opsB C I R_o4 (St.mk (look [(4, (s 4)), (6, (s 6)), (12, (s 12)), (13, (s 13)), (14, (s 14)), (36, x1)]) (looko ([6, 54].map fun n => (n, o n)))) K)) := rfl

theorem g_law17_refs_o2_sh {R_o3 : List AOper} {C : Ctx} {I : Nat → Prop} {s : Nat → V} {o : Nat → Option Ob} {K : St → Prop} : opsB C I (⟨some 30, .faddr 5 (.t 6), [], [], (some (11, 29, false)), none⟩ ::
     ⟨some 31, .faddr 13 (.t 30), [], [], (some (11, 29, false)), none⟩ ::
     ⟨some 32, .load none (.t 31), [], [], (some (11, 29, false)), none⟩ ::
     ⟨some 33, .len (.t 32), [], [], (some (11, 29, false)), none⟩ ::
     ⟨some 34, .bin .gtr (.t 33) (.c (.d (.int .i64 40))), [], [], (some (11, 29, false)), (some ([4, 6, 12, 13, 14, 29, 34], (some [6, 54])))⟩ ::
     R_o3) (St.mk s o) K =
 (guardK (s 29) false
 (demand (faddrV 5 (s 6)) (fun x1 =>
demand (faddrV 13 x1) (fun x2 =>
demand (loadV o none x2) (fun x3 =>
demand (lenV o x3) (fun x4 =>
demand (binV BinOp.gtr x4 (V.d (.int .i64 40))) (fun x5 =>
opsB C I R_o3 (St.mk (look [(4, (s 4)), (6, (s 6)), (12, (s 12)), (13, (s 13)), (14, (s 14)), (29, (V.d (D.bool false))), (34, x5)]) (looko ([6, 54].map fun n => (n, o n)))) K))))))
 (opsB C I R_o3 (St.mk (look [(4, (s 4)), (6, (s 6)), (12, (s 12)), (13, (s 13)), (14, (s 14)), (29, (V.d (D.bool true))), (34, (V.tup []))]) (looko ([6, 54].map fun n => (n, o n)))) K)
 (opsB C I R_o3 (St.mk (look [(4, (s 4)), (6, (s 6)), (12, (s 12)), (13, (s 13)), (14, (s 14)), (29, (V.tup [])), (34, (V.tup []))]) (looko ([6, 54].map fun n => (n, o n)))) K)) := rfl

theorem g_law17_refs_o1_sh {R_o2 : List AOper} {C : Ctx} {I : Nat → Prop} {s : Nat → V} {o : Nat → Option Ob} {K : St → Prop} : opsB C I (⟨some 28, .pick (.t 22) (.c (.d (.bool true))) (.t 27), [], [], none, none⟩ ::
     ⟨some 29, .mv (.t 28), [], [], none, (some ([4, 6, 12, 13, 14, 29], (some [6, 54])))⟩ ::
     R_o2) (St.mk s o) K =
 (demand (pickV (s 22) (V.d (.bool true)) (s 27)) (fun x1 =>
opsB C I R_o2 (St.mk (look [(4, (s 4)), (6, (s 6)), (12, (s 12)), (13, (s 13)), (14, (s 14)), (29, x1)]) (looko ([6, 54].map fun n => (n, o n)))) K)) := rfl

theorem g_law17_refs_o0_sh {R_o1 : List AOper} {C : Ctx} {I : Nat → Prop} {s : Nat → V} {o : Nat → Option Ob} {K : St → Prop} : opsB C I (⟨some 23, .faddr 5 (.t 6), [], [], (some (4, 22, false)), none⟩ ::
     ⟨some 24, .faddr 0 (.t 23), [], [], (some (4, 22, false)), none⟩ ::
     ⟨some 25, .load none (.t 24), [], [], (some (4, 22, false)), none⟩ ::
     ⟨some 26, .len (.t 25), [], [], (some (4, 22, false)), none⟩ ::
     ⟨some 27, .bin .gtr (.t 26) (.c (.d (.int .i64 70))), [], [], (some (4, 22, false)), (some ([4, 6, 12, 13, 14, 22, 27], (some [6, 54])))⟩ ::
     R_o1) (St.mk s o) K =
 (guardK (s 22) false
 (demand (faddrV 5 (s 6)) (fun x1 =>
demand (faddrV 0 x1) (fun x2 =>
demand (loadV o none x2) (fun x3 =>
demand (lenV o x3) (fun x4 =>
demand (binV BinOp.gtr x4 (V.d (.int .i64 70))) (fun x5 =>
opsB C I R_o1 (St.mk (look [(4, (s 4)), (6, (s 6)), (12, (s 12)), (13, (s 13)), (14, (s 14)), (22, (V.d (D.bool false))), (27, x5)]) (looko ([6, 54].map fun n => (n, o n)))) K))))))
 (opsB C I R_o1 (St.mk (look [(4, (s 4)), (6, (s 6)), (12, (s 12)), (13, (s 13)), (14, (s 14)), (22, (V.d (D.bool true))), (27, (V.tup []))]) (looko ([6, 54].map fun n => (n, o n)))) K)
 (opsB C I R_o1 (St.mk (look [(4, (s 4)), (6, (s 6)), (12, (s 12)), (13, (s 13)), (14, (s 14)), (22, (V.tup [])), (27, (V.tup []))]) (looko ([6, 54].map fun n => (n, o n)))) K)) := rfl

theorem g_law17_refs_c0_sh {C : Ctx} {I : Nat → Prop} {s : Nat → V} {o : Nat → Option Ob} {Q : Ex → St → Prop} : wpB C I (.cond (.t 49) (.seq (.region [2, 3] (some [54]) none
     [⟨some 2, .mv (.c (.cap0)), [], [], none, none⟩,
      ⟨some 3, .mv (.c (.d (.bool false))), [], [], none, none⟩])
  (.ret))
 (.skip)) (St.mk s o) Q =
 (condK (s 49)
 (Q .ret (St.mk (look [(2, (V.cap0)), (3, (V.d (.bool false)))]) (looko ([54].map fun n => (n, o n)))))
 (Q .normal (St.mk s o))) := rfl

theorem g_law17_refs_c1_sh {C : Ctx} {I : Nat → Prop} {s : Nat → V} {o : Nat → Option Ob} {Q : Ex → St → Prop} : wpB C I (.region [4, 12, 13, 14] (some [54]) none
   [⟨some 50, .mv (.t 4), [], [], none, none⟩,
    ⟨some 51, .load (some 22) (.t 6), [], [], none, none⟩,
    ⟨some 52, .call 12 [(.t 51)], [], [], none, none⟩,
    ⟨some 53, .bsl none 22 [] 1 [(0, (.t 52))], [], [], none, none⟩,
    ⟨some 54, .app (some 54) 22 256 (.t 50) (.t 53), [], [], none, none⟩,
    ⟨some 4, .mv (.t 54), [], [], none, none⟩]) (St.mk s o) Q =
 (demand (loadV o (some 22) (s 6)) (fun x1 =>
callK C I (St.mk (upd (upd s 50 (s 4)) 51 x1) o) (some 52) 12 [x1] (fun r2 or2 =>
lstK (partsN 22 [r2]) (fun es3 =>
lstK (readD or2 (V.d (D.sl es3))) (fun ys4 => (∀ e ∈ ys4, e.length = 22) ∧ appK (s 4)
 (ys4.length * 256 ≤ 140737488355328 ∧ ys4.length ≤ 140737488355328 ∧ ¬ I 54 ∧ Fresh (St.mk (upd (upd (upd (upd s 50 (s 4)) 51 x1) 52 r2) 53 (V.d (D.sl es3))) or2) 54 (some 54) ∧
Q .normal (St.mk (look [(4, (V.own 54)), (12, (s 12)), (13, (s 13)), (14, (s 14))]) (looko ([54].map fun n => (n, (upd or2 54 (some (Ob.row 22 ys4))) n)))))
 (fun m5 => ¬ I m5 ∧ rowK (or2 m5) (fun z6 es7 => z6 = 22 ∧ (es7.length + ys4.length) * 256 ≤ 140737488355328 ∧ es7.length + ys4.length ≤ 140737488355328 ∧
Q .normal (St.mk (look [(4, (V.own m5)), (12, ((fun t => scrubV m5 (s t)) 12)), (13, ((fun t => scrubV m5 (s t)) 13)), (14, ((fun t => scrubV m5 (s t)) 14))]) (looko ([54].map fun n => (n, (upd (fun n => (or2 n).map (Ob.scrub m5)) m5 (some (Ob.row 22 (es7 ++ ys4)))) n))))))))))) := rfl

theorem g_law17_refs_c2_sh {R_o0 : List AOper} {R_c0 : ACode} {R_c1 : ACode} {C : Ctx} {I : Nat → Prop} {s : Nat → V} {o : Nat → Option Ob} {Q : Ex → St → Prop} : wpB C I (.seq (.seq (.region [4, 6, 12, 13, 14, 49] (some [6, 54]) none
     (⟨some 18, .faddr 21 (.t 6), [], [], none, none⟩ ::
      ⟨some 19, .load none (.t 18), [], [], none, none⟩ ::
      ⟨some 20, .len (.t 19), [], [], none, none⟩ ::
      ⟨some 21, .bin .gtr (.t 20) (.c (.d (.int .i64 40))), [], [], none, none⟩ ::
      ⟨some 22, .mv (.t 21), [], [], none, (some ([4, 6, 12, 13, 14, 22], (some [6, 54])))⟩ ::
      R_o0))
  (R_c0))
 (R_c1)) (St.mk s o) Q =
 (demand (faddrV 21 (s 6)) (fun x1 =>
demand (loadV o none x1) (fun x2 =>
demand (lenV o x2) (fun x3 =>
demand (binV BinOp.gtr x3 (V.d (.int .i64 40))) (fun x4 =>
opsB C I R_o0 (St.mk (look [(4, (s 4)), (6, (s 6)), (12, (s 12)), (13, (s 13)), (14, (s 14)), (22, x4)]) (looko ([6, 54].map fun n => (n, o n)))) (fun st => (seqK (fun st => wpB C I R_c0 st (seqK (fun st => wpB C I R_c1 st Q) Q)) (seqK (fun st => wpB C I R_c1 st Q) Q)) .normal (St.trim st [4, 6, 12, 13, 14, 49] (some [6, 54])))))))) := rfl

theorem g_law17_refs_c3_sh {C : Ctx} {I : Nat → Prop} {s : Nat → V} {o : Nat → Option Ob} {Q : Ex → St → Prop} : wpB C I (.region [4, 12, 13, 14] (some [54]) none
   [⟨some 55, .bin .add (.t 14) (.c (.d (.int .i64 1))), [], [], none, none⟩,
    ⟨some 14, .mv (.t 55), [], [], none, none⟩]) (St.mk s o) Q =
 (demand (binV BinOp.add (s 14) (V.d (.int .i64 1))) (fun x1 =>
Q .normal (St.mk (look [(4, (s 4)), (12, (s 12)), (13, (s 13)), (14, x1)]) (looko ([54].map fun n => (n, o n)))))) := rfl

theorem g_law17_refs_l0_sh {R_l0 : ACode} {R_c2 : ACode} {R_c3 : ACode} {C : Ctx} {I : Nat → Prop} {s : Nat → V} {o : Nat → Option Ob} {Q : Ex → St → Prop} (hL : R_l0 = .loop [4, 12, 13, 14] (some [54]) (.seq (.region [4, 12, 13, 14, 15] (some [54]) none
     [⟨some 15, .bin .lss (.t 14) (.t 13), [], [], none, none⟩])
  (.seq (.cond (.t 15) (.skip)
    (.exit 0))
   (.seq (.block 1 [4, 12, 13, 14] (some [54]) (.seq (.region [4, 6, 12, 13, 14] (some [6, 54]) none
         [⟨some 16, .iaddr 22 (.t 12) (.t 14), [], [], none, none⟩,
          ⟨some 17, .load (some 22) (.t 16), [], [], none, none⟩,
          ⟨some 6, .alloc 6 [.d (.int .i64 0), .d (.int .i64 0), .d (.int .i64 0), .d (.int .i64 0), .d (.int .i64 0), .cap0, .d (.int .i64 0), .d (.int .i64 0), .d (.int .i64 0), .d (.int .i64 0), .d (.int .i64 0), .d (.int .i64 0), .d (.int .i64 0), .d (.int .i64 0), .d (.int .i64 0), .d (.int .i64 0), .d (.int .i64 0), .d (.int .i64 0), .cap0, .cap0, .cap0, .cap0], [], [], none, none⟩,
          ⟨none, .store 22 (.t 6) (.t 17), [], [], none, none⟩])
      (R_c2)))
    (R_c3)))))
 (h : demand (binV BinOp.lss (s 14) (s 13)) (fun x1 =>
condK x1
 (demand (iaddrV (looko ([54].map fun n => (n, o n))) 22 (s 12) (s 14)) (fun x2 =>
demand (loadV (looko ([54].map fun n => (n, o n))) (some 22) x2) (fun x3 =>
(¬ I 6 ∧ Fresh (St.mk (upd (upd (look [(4, (s 4)), (12, (s 12)), (13, (s 13)), (14, (s 14)), (15, x1)]) 16 x2) 17 x3) (looko ([54].map fun n => (n, o n)))) 6 (some 6) ∧ V.refsL 6 [V.d (.int .i64 0), V.d (.int .i64 0), V.d (.int .i64 0), V.d (.int .i64 0), V.d (.int .i64 0), V.cap0, V.d (.int .i64 0), V.d (.int .i64 0), V.d (.int .i64 0), V.d (.int .i64 0), V.d (.int .i64 0), V.d (.int .i64 0), V.d (.int .i64 0), V.d (.int .i64 0), V.d (.int .i64 0), V.d (.int .i64 0), V.d (.int .i64 0), V.d (.int .i64 0), V.cap0, V.cap0, V.cap0, V.cap0] = false ∧
storeK (V.ptr 6 0) (cellsV x3) 22 (upd (looko ([54].map fun n => (n, o n))) 6 (some (Ob.box [V.d (.int .i64 0), V.d (.int .i64 0), V.d (.int .i64 0), V.d (.int .i64 0), V.d (.int .i64 0), V.cap0, V.d (.int .i64 0), V.d (.int .i64 0), V.d (.int .i64 0), V.d (.int .i64 0), V.d (.int .i64 0), V.d (.int .i64 0), V.d (.int .i64 0), V.d (.int .i64 0), V.d (.int .i64 0), V.d (.int .i64 0), V.d (.int .i64 0), V.d (.int .i64 0), V.cap0, V.cap0, V.cap0, V.cap0]))) (fun m4 ob5 =>
wpB C I R_c2 (St.mk (look [(4, (s 4)), (6, (V.ptr 6 0)), (12, (s 12)), (13, (s 13)), (14, (s 14))]) (looko ([6, 54].map fun n => (n, (upd (upd (looko ([54].map fun n => (n, o n))) 6 (some (Ob.box [V.d (.int .i64 0), V.d (.int .i64 0), V.d (.int .i64 0), V.d (.int .i64 0), V.d (.int .i64 0), V.cap0, V.d (.int .i64 0), V.d (.int .i64 0), V.d (.int .i64 0), V.d (.int .i64 0), V.d (.int .i64 0), V.d (.int .i64 0), V.d (.int .i64 0), V.d (.int .i64 0), V.d (.int .i64 0), V.d (.int .i64 0), V.d (.int .i64 0), V.d (.int .i64 0), V.cap0, V.cap0, V.cap0, V.cap0]))) m4 (some ob5)) n)))) (blockK 1 [4, 12, 13, 14] (some [54]) (seqK (fun st => wpB C I R_c3 st (seqK (fun s => wpB C I R_l0 s Q) Q)) (seqK (fun s => wpB C I R_l0 s Q) Q))))))))
 (Q (.exit 0) (St.mk (look [(4, (s 4)), (12, (s 12)), (13, (s 13)), (14, (s 14)), (15, x1)]) (looko ([54].map fun n => (n, o n))))))) : wpB C I R_l0 (St.mk s o) Q := w_loopC hL h

theorem g_law17_refs_c4_sh {R_l0 : ACode} {C : Ctx} {I : Nat → Prop} {s : Nat → V} {o : Nat → Option Ob} {Q : Ex → St → Prop} : wpB C I (.block 0 [4] (some [54]) (R_l0)) (St.mk s o) Q =
 (wpB C I R_l0 (St.mk s o) (blockK 0 [4] (some [54]) Q)) := rfl

theorem g_law17_refs_c5_sh {C : Ctx} {I : Nat → Prop} {s : Nat → V} {o : Nat → Option Ob} {Q : Ex → St → Prop} : wpB C I (.seq (.region [2, 3] (some [54]) none
    [⟨some 56, .mv (.t 4), [], [], none, none⟩,
     ⟨some 2, .mv (.t 56), [], [], none, none⟩,
     ⟨some 3, .mv (.c (.d (.bool true))), [], [], none, none⟩])
 (.ret)) (St.mk s o) Q =
 (Q .ret (St.mk (look [(2, (s 4)), (3, (V.d (.bool true)))]) (looko ([54].map fun n => (n, o n))))) := rfl

theorem g_law17_refs_c6_sh {R_c4 : ACode} {R_c5 : ACode} {C : Ctx} {I : Nat → Prop} {s : Nat → V} {o : Nat → Option Ob} {Q : Ex → St → Prop} : wpB C I (.seq (.region [1, 4] (some [1, 54]) none
    [⟨some 4, .mv (.c (.cap0)), [], [], none, none⟩])
 (.seq (.seq (.region [4, 12, 13, 14] (some [54]) none
      [⟨some 11, .faddr 0 (.t 1), [], [], none, none⟩,
       ⟨some 12, .load none (.t 11), [], [], none, none⟩,
       ⟨some 13, .len (.t 12), [], [], none, none⟩,
       ⟨some 14, .mv (.c (.d (.int .i64 0))), [], [], none, none⟩])
   (R_c4))
  (R_c5))) (St.mk s o) Q =
 (demand (faddrV 0 (s 1)) (fun x1 =>
demand (loadV (looko ([1, 54].map fun n => (n, o n))) none x1) (fun x2 =>
demand (lenV (looko ([1, 54].map fun n => (n, o n))) x2) (fun x3 =>
wpB C I R_c4 (St.mk (look [(4, (V.cap0)), (12, x2), (13, x3), (14, (V.d (.int .i64 0)))]) (looko ([54].map fun n => (n, o n)))) (seqK (fun st => wpB C I R_c5 st Q) Q))))) := rfl

theorem g_law17_refs_code_sh {R_c6 : ACode} {C : Ctx} {I : Nat → Prop} {s : Nat → V} {o : Nat → Option Ob} {Q : Ex → St → Prop} : wpB C I (.seq (.region [1] (some [1]) none
    [⟨some 1, .box 1 1 (.t 0), [], [], none, none⟩,
     ⟨some 2, .mv (.c (.cap0)), [], [], none, none⟩,
     ⟨some 3, .mv (.c (.d (.bool false))), [], [], none, none⟩])
 (.seq (.seq (.region [1, 10] (some [1]) none
      [⟨some 7, .faddr 0 (.t 1), [], [], none, none⟩,
       ⟨some 8, .load none (.t 7), [], [], none, none⟩,
       ⟨some 9, .len (.t 8), [], [], none, none⟩,
       ⟨some 10, .bin .gtr (.t 9) (.c (.d (.int .i64 40))), [], [], none, none⟩])
   (.cond (.t 10) (.seq (.region [2, 3] (some [54]) none
        [⟨some 2, .mv (.c (.cap0)), [], [], none, none⟩,
         ⟨some 3, .mv (.c (.d (.bool false))), [], [], none, none⟩])
     (.ret))
    (.skip)))
  (R_c6))) (St.mk s o) Q =
 (lstK (cellsV (s 0)) (fun c1 => c1.length = 1 ∧ ¬ I 1 ∧ Fresh (St.mk s o) 1 (some 1) ∧ V.refsL 1 c1 = false ∧
demand (faddrV 0 (V.ptr 1 0)) (fun x2 =>
demand (loadV (looko ([1].map fun n => (n, (upd o 1 (some (Ob.box c1))) n))) none x2) (fun x3 =>
demand (lenV (looko ([1].map fun n => (n, (upd o 1 (some (Ob.box c1))) n))) x3) (fun x4 =>
demand (binV BinOp.gtr x4 (V.d (.int .i64 40))) (fun x5 =>
condK x5
 (Q .ret (St.mk (look [(2, (V.cap0)), (3, (V.d (.bool false)))]) (looko ([54].map fun n => (n, (looko ([1].map fun n => (n, (upd o 1 (some (Ob.box c1))) n))) n)))))
 (wpB C I R_c6 (St.mk (look [(1, (V.ptr 1 0)), (10, x5)]) (looko ([1].map fun n => (n, (upd o 1 (some (Ob.box c1))) n)))) Q))))))) := rfl

theorem g_law17_awake_o15_sh {C : Ctx} {I : Nat → Prop} {s : Nat → V} {o : Nat → Option Ob} {K : St → Prop} : opsB C I [⟨some 67, .pick (.t 63) (.t 66) (.c (.d (.bool false))), [], [], none, none⟩,
     ⟨some 0, .mv (.t 67), [], [], none, none⟩] (St.mk s o) K =
 (demand (pickV (s 63) (s 66) (V.d (.bool false))) (fun x1 =>
K (St.mk (upd (upd s 67 x1) 0 x1) o))) := rfl

theorem g_law17_awake_o14_sh {R_o15 : List AOper} {C : Ctx} {I : Nat → Prop} {s : Nat → V} {o : Nat → Option Ob} {K : St → Prop} : opsB C I (⟨some 64, .load (some 1) (.t 4), [], [], (some (35, 63, true)), none⟩ ::
     ⟨some 65, .call 9 [(.t 64), (.c (.d (.int .i64 1)))], [], [], (some (35, 63, true)), none⟩ ::
     ⟨some 66, .un .not (.t 65), [], [], (some (35, 63, true)), (some ([63, 66], (some [])))⟩ ::
     R_o15) (St.mk s o) K =
 (guardK (s 63) true
 (demand (loadV o (some 1) (s 4)) (fun x1 =>
callK C I (St.mk (upd (upd (upd s 63 (V.d (D.bool true))) 64 x1) 63 (V.d (D.bool true))) o) (some 65) 9 [x1, (V.d (.int .i64 1))] (fun r2 or2 =>
demand (unV UnOp.not r2) (fun x3 =>
opsB C I R_o15 (St.mk (look [(63, (V.d (D.bool true))), (66, x3)]) (looko ([].map fun n => (n, or2 n)))) K))))
 (opsB C I R_o15 (St.mk (look [(63, (V.d (D.bool false))), (66, (V.tup []))]) (looko ([].map fun n => (n, o n)))) K)
 (opsB C I R_o15 (St.mk (look [(63, (V.tup [])), (66, (V.tup []))]) (looko ([].map fun n => (n, o n)))) K)) := rfl

theorem g_law17_awake_o13_sh {R_o14 : List AOper} {C : Ctx} {I : Nat → Prop} {s : Nat → V} {o : Nat → Option Ob} {K : St → Prop} : opsB C I (⟨some 62, .pick (.t 59) (.t 61) (.c (.d (.bool false))), [], [], none, none⟩ ::
     ⟨some 63, .mv (.t 62), [], [], none, (some ([4, 63], (some [4])))⟩ ::
     R_o14) (St.mk s o) K =
 (demand (pickV (s 59) (s 61) (V.d (.bool false))) (fun x1 =>
opsB C I R_o14 (St.mk (look [(4, (s 4)), (63, x1)]) (looko ([4].map fun n => (n, o n)))) K)) := rfl

theorem g_law17_awake_o12_sh {R_o13 : List AOper} {C : Ctx} {I : Nat → Prop} {s : Nat → V} {o : Nat → Option Ob} {K : St → Prop} : opsB C I (⟨some 60, .load (some 1) (.t 1), [], [], (some (31, 59, true)), none⟩ ::
     ⟨some 61, .call 9 [(.t 60), (.c (.d (.int .i64 0)))], [], [], (some (31, 59, true)), (some ([4, 59, 61], (some [4])))⟩ ::
     R_o13) (St.mk s o) K =
 (guardK (s 59) true
 (demand (loadV o (some 1) (s 1)) (fun x1 =>
callK C I (St.mk (upd (upd (upd s 59 (V.d (D.bool true))) 60 x1) 59 (V.d (D.bool true))) o) (some 61) 9 [x1, (V.d (.int .i64 0))] (fun r2 or2 =>
opsB C I R_o13 (St.mk (look [(4, (s 4)), (59, (V.d (D.bool true))), (61, r2)]) (looko ([4].map fun n => (n, or2 n)))) K)))
 (opsB C I R_o13 (St.mk (look [(4, (s 4)), (59, (V.d (D.bool false))), (61, (V.tup []))]) (looko ([4].map fun n => (n, o n)))) K)
 (opsB C I R_o13 (St.mk (look [(4, (s 4)), (59, (V.tup [])), (61, (V.tup []))]) (looko ([4].map fun n => (n, o n)))) K)) := rfl

theorem g_law17_awake_o11_sh {R_o12 : List AOper} {C : Ctx} {I : Nat → Prop} {s : Nat → V} {o : Nat → Option Ob} {K : St → Prop} : opsB C I (⟨some 58, .pick (.t 55) (.t 57) (.c (.d (.bool false))), [], [], none, none⟩ ::
     ⟨some 59, .mv (.t 58), [], [], none, (some ([1, 4, 59], (some [1, 4])))⟩ ::
     R_o12) (St.mk s o) K =
 (demand (pickV (s 55) (s 57) (V.d (.bool false))) (fun x1 =>
opsB C I R_o12 (St.mk (look [(1, (s 1)), (4, (s 4)), (59, x1)]) (looko ([1, 4].map fun n => (n, o n)))) K)) := rfl

theorem g_law17_awake_o10_sh {R_o11 : List AOper} {C : Ctx} {I : Nat → Prop} {s : Nat → V} {o : Nat → Option Ob} {K : St → Prop} : opsB C I (⟨some 56, .mv (.t 7), [], [], (some (27, 55, true)), none⟩ ::
     ⟨some 57, .bin .eql (.t 56) (.c (.d (.int .i64 6))), [], [], (some (27, 55, true)), (some ([1, 4, 55, 57], (some [1, 4])))⟩ ::
     R_o11) (St.mk s o) K =
 (guardK (s 55) true
 (demand (binV BinOp.eql (s 7) (V.d (.int .i64 6))) (fun x1 =>
opsB C I R_o11 (St.mk (look [(1, (s 1)), (4, (s 4)), (55, (V.d (D.bool true))), (57, x1)]) (looko ([1, 4].map fun n => (n, o n)))) K))
 (opsB C I R_o11 (St.mk (look [(1, (s 1)), (4, (s 4)), (55, (V.d (D.bool false))), (57, (V.tup []))]) (looko ([1, 4].map fun n => (n, o n)))) K)
 (opsB C I R_o11 (St.mk (look [(1, (s 1)), (4, (s 4)), (55, (V.tup [])), (57, (V.tup []))]) (looko ([1, 4].map fun n => (n, o n)))) K)) := rfl

theorem g_law17_awake_o9_sh {R_o10 : List AOper} {C : Ctx} {I : Nat → Prop} {s : Nat → V} {o : Nat → Option Ob} {K : St → Prop} : opsB C I (⟨some 54, .pick (.t 50) (.t 53) (.c (.d (.bool false))), [], [], none, none⟩ ::
     ⟨some 55, .mv (.t 54), [], [], none, (some ([1, 4, 7, 55], (some [1, 4])))⟩ ::
     R_o10) (St.mk s o) K =
 (demand (pickV (s 50) (s 53) (V.d (.bool false))) (fun x1 =>
opsB C I R_o10 (St.mk (look [(1, (s 1)), (4, (s 4)), (7, (s 7)), (55, x1)]) (looko ([1, 4].map fun n => (n, o n)))) K)) := rfl

theorem g_law17_awake_o8_sh {R_o9 : List AOper} {C : Ctx} {I : Nat → Prop} {s : Nat → V} {o : Nat → Option Ob} {K : St → Prop} : opsB C I (⟨some 51, .load (some 1) (.t 4), [], [], (some (22, 50, true)), none⟩ ::
     ⟨some 52, .call 8 [(.t 51), (.c (.d (.int .i64 1))), (.c (.d (.int .i64 24276)))], [], [], (some (22, 50, true)), none⟩ ::
     ⟨some 53, .bin .eql (.t 52) (.c (.d (.int .i64 (-1)))), [], [], (some (22, 50, true)), (some ([1, 4, 7, 50, 53], (some [1, 4])))⟩ ::
     R_o9) (St.mk s o) K =
 (guardK (s 50) true
 (demand (loadV o (some 1) (s 4)) (fun x1 =>
callK C I (St.mk (upd (upd (upd s 50 (V.d (D.bool true))) 51 x1) 50 (V.d (D.bool true))) o) (some 52) 8 [x1, (V.d (.int .i64 1)), (V.d (.int .i64 24276))] (fun r2 or2 =>
demand (binV BinOp.eql r2 (V.d (.int .i64 (-1)))) (fun x3 =>
opsB C I R_o9 (St.mk (look [(1, (s 1)), (4, (s 4)), (7, (s 7)), (50, (V.d (D.bool true))), (53, x3)]) (looko ([1, 4].map fun n => (n, or2 n)))) K))))
 (opsB C I R_o9 (St.mk (look [(1, (s 1)), (4, (s 4)), (7, (s 7)), (50, (V.d (D.bool false))), (53, (V.tup []))]) (looko ([1, 4].map fun n => (n, o n)))) K)
 (opsB C I R_o9 (St.mk (look [(1, (s 1)), (4, (s 4)), (7, (s 7)), (50, (V.tup [])), (53, (V.tup []))]) (looko ([1, 4].map fun n => (n, o n)))) K)) := rfl

theorem g_law17_awake_o7_sh {R_o8 : List AOper} {C : Ctx} {I : Nat → Prop} {s : Nat → V} {o : Nat → Option Ob} {K : St → Prop} : opsB C I (⟨some 49, .pick (.t 45) (.t 48) (.c (.d (.bool false))), [], [], none, none⟩ ::
     ⟨some 50, .mv (.t 49), [], [], none, (some ([1, 4, 7, 50], (some [1, 4])))⟩ ::
     R_o8) (St.mk s o) K =
 (demand (pickV (s 45) (s 48) (V.d (.bool false))) (fun x1 =>
opsB C I R_o8 (St.mk (look [(1, (s 1)), (4, (s 4)), (7, (s 7)), (50, x1)]) (looko ([1, 4].map fun n => (n, o n)))) K)) := rfl

theorem g_law17_awake_o6_sh {R_o7 : List AOper} {C : Ctx} {I : Nat → Prop} {s : Nat → V} {o : Nat → Option Ob} {K : St → Prop} : opsB C I (⟨some 46, .load (some 1) (.t 1), [], [], (some (17, 45, true)), none⟩ ::
     ⟨some 47, .call 8 [(.t 46), (.c (.d (.int .i64 1))), (.c (.d (.int .i64 24276)))], [], [], (some (17, 45, true)), none⟩ ::
     ⟨some 48, .bin .eql (.t 47) (.c (.d (.int .i64 0))), [], [], (some (17, 45, true)), (some ([1, 4, 7, 45, 48], (some [1, 4])))⟩ ::
     R_o7) (St.mk s o) K =
 (guardK (s 45) true
 (demand (loadV o (some 1) (s 1)) (fun x1 =>
callK C I (St.mk (upd (upd (upd s 45 (V.d (D.bool true))) 46 x1) 45 (V.d (D.bool true))) o) (some 47) 8 [x1, (V.d (.int .i64 1)), (V.d (.int .i64 24276))] (fun r2 or2 =>
demand (binV BinOp.eql r2 (V.d (.int .i64 0))) (fun x3 =>
opsB C I R_o7 (St.mk (look [(1, (s 1)), (4, (s 4)), (7, (s 7)), (45, (V.d (D.bool true))), (48, x3)]) (looko ([1, 4].map fun n => (n, or2 n)))) K))))
 (opsB C I R_o7 (St.mk (look [(1, (s 1)), (4, (s 4)), (7, (s 7)), (45, (V.d (D.bool false))), (48, (V.tup []))]) (looko ([1, 4].map fun n => (n, o n)))) K)
 (opsB C I R_o7 (St.mk (look [(1, (s 1)), (4, (s 4)), (7, (s 7)), (45, (V.tup [])), (48, (V.tup []))]) (looko ([1, 4].map fun n => (n, o n)))) K)) := rfl

theorem g_law17_awake_o5_sh {R_o6 : List AOper} {C : Ctx} {I : Nat → Prop} {s : Nat → V} {o : Nat → Option Ob} {K : St → Prop} : opsB C I (⟨some 44, .pick (.t 41) (.t 43) (.c (.d (.bool false))), [], [], none, none⟩ ::
     ⟨some 45, .mv (.t 44), [], [], none, (some ([1, 4, 7, 45], (some [1, 4])))⟩ ::
     R_o6) (St.mk s o) K =
 (demand (pickV (s 41) (s 43) (V.d (.bool false))) (fun x1 =>
opsB C I R_o6 (St.mk (look [(1, (s 1)), (4, (s 4)), (7, (s 7)), (45, x1)]) (looko ([1, 4].map fun n => (n, o n)))) K)) := rfl

theorem g_law17_awake_o4_sh {R_o5 : List AOper} {C : Ctx} {I : Nat → Prop} {s : Nat → V} {o : Nat → Option Ob} {K : St → Prop} : opsB C I (⟨some 42, .mv (.t 5), [], [], (some (13, 41, true)), none⟩ ::
     ⟨some 43, .bin .eql (.t 42) (.c (.d (.int .i64 0))), [], [], (some (13, 41, true)), (some ([1, 4, 7, 41, 43], (some [1, 4])))⟩ ::
     R_o5) (St.mk s o) K =
 (guardK (s 41) true
 (demand (binV BinOp.eql (s 5) (V.d (.int .i64 0))) (fun x1 =>
opsB C I R_o5 (St.mk (look [(1, (s 1)), (4, (s 4)), (7, (s 7)), (41, (V.d (D.bool true))), (43, x1)]) (looko ([1, 4].map fun n => (n, o n)))) K))
 (opsB C I R_o5 (St.mk (look [(1, (s 1)), (4, (s 4)), (7, (s 7)), (41, (V.d (D.bool false))), (43, (V.tup []))]) (looko ([1, 4].map fun n => (n, o n)))) K)
 (opsB C I R_o5 (St.mk (look [(1, (s 1)), (4, (s 4)), (7, (s 7)), (41, (V.tup [])), (43, (V.tup []))]) (looko ([1, 4].map fun n => (n, o n)))) K)) := rfl

theorem g_law17_awake_o3_sh {R_o4 : List AOper} {C : Ctx} {I : Nat → Prop} {s : Nat → V} {o : Nat → Option Ob} {K : St → Prop} : opsB C I (⟨some 40, .pick (.t 35) (.t 39) (.c (.d (.bool false))), [], [], none, none⟩ ::
     ⟨some 41, .mv (.t 40), [], [], none, (some ([1, 4, 5, 7, 41], (some [1, 4])))⟩ ::
     R_o4) (St.mk s o) K =
 (demand (pickV (s 35) (s 39) (V.d (.bool false))) (fun x1 =>
opsB C I R_o4 (St.mk (look [(1, (s 1)), (4, (s 4)), (5, (s 5)), (7, (s 7)), (41, x1)]) (looko ([1, 4].map fun n => (n, o n)))) K)) := rfl

theorem g_law17_awake_o2_sh {R_o3 : List AOper} {C : Ctx} {I : Nat → Prop} {s : Nat → V} {o : Nat → Option Ob} {K : St → Prop} : opsB C I (⟨some 36, .faddr 3 (.t 3), [], [], (some (7, 35, true)), none⟩ ::
     ⟨some 37, .load none (.t 36), [], [], (some (7, 35, true)), none⟩ ::
     ⟨some 38, .len (.t 37), [], [], (some (7, 35, true)), none⟩ ::
     ⟨some 39, .bin .eql (.t 38) (.c (.d (.int .i64 1))), [], [], (some (7, 35, true)), (some ([1, 4, 5, 7, 35, 39], (some [1, 4])))⟩ ::
     R_o3) (St.mk s o) K =
 (guardK (s 35) true
 (demand (faddrV 3 (s 3)) (fun x1 =>
demand (loadV o none x1) (fun x2 =>
demand (lenV o x2) (fun x3 =>
demand (binV BinOp.eql x3 (V.d (.int .i64 1))) (fun x4 =>
opsB C I R_o3 (St.mk (look [(1, (s 1)), (4, (s 4)), (5, (s 5)), (7, (s 7)), (35, (V.d (D.bool true))), (39, x4)]) (looko ([1, 4].map fun n => (n, o n)))) K)))))
 (opsB C I R_o3 (St.mk (look [(1, (s 1)), (4, (s 4)), (5, (s 5)), (7, (s 7)), (35, (V.d (D.bool false))), (39, (V.tup []))]) (looko ([1, 4].map fun n => (n, o n)))) K)
 (opsB C I R_o3 (St.mk (look [(1, (s 1)), (4, (s 4)), (5, (s 5)), (7, (s 7)), (35, (V.tup [])), (39, (V.tup []))]) (looko ([1, 4].map fun n => (n, o n)))) K)) := rfl

theorem g_law17_awake_o1_sh {R_o2 : List AOper} {C : Ctx} {I : Nat → Prop} {s : Nat → V} {o : Nat → Option Ob} {K : St → Prop} : opsB C I (⟨some 34, .pick (.t 30) (.t 33) (.c (.d (.bool false))), [], [], none, none⟩ ::
     ⟨some 35, .mv (.t 34), [], [], none, (some ([1, 3, 4, 5, 7, 35], (some [1, 3, 4])))⟩ ::
     R_o2) (St.mk s o) K =
 (demand (pickV (s 30) (s 33) (V.d (.bool false))) (fun x1 =>
opsB C I R_o2 (St.mk (look [(1, (s 1)), (3, (s 3)), (4, (s 4)), (5, (s 5)), (7, (s 7)), (35, x1)]) (looko ([1, 3, 4].map fun n => (n, o n)))) K)) := rfl

theorem g_law17_awake_o0_sh {R_o1 : List AOper} {C : Ctx} {I : Nat → Prop} {s : Nat → V} {o : Nat → Option Ob} {K : St → Prop} : opsB C I (⟨some 31, .faddr 0 (.t 3), [], [], (some (2, 30, true)), none⟩ ::
     ⟨some 32, .load none (.t 31), [], [], (some (2, 30, true)), none⟩ ::
     ⟨some 33, .bin .eql (.t 32) (.c (.d (.int .i64 7))), [], [], (some (2, 30, true)), (some ([1, 3, 4, 5, 7, 30, 33], (some [1, 3, 4])))⟩ ::
     R_o1) (St.mk s o) K =
 (guardK (s 30) true
 (demand (faddrV 0 (s 3)) (fun x1 =>
demand (loadV o none x1) (fun x2 =>
demand (binV BinOp.eql x2 (V.d (.int .i64 7))) (fun x3 =>
opsB C I R_o1 (St.mk (look [(1, (s 1)), (3, (s 3)), (4, (s 4)), (5, (s 5)), (7, (s 7)), (30, (V.d (D.bool true))), (33, x3)]) (looko ([1, 3, 4].map fun n => (n, o n)))) K))))
 (opsB C I R_o1 (St.mk (look [(1, (s 1)), (3, (s 3)), (4, (s 4)), (5, (s 5)), (7, (s 7)), (30, (V.d (D.bool false))), (33, (V.tup []))]) (looko ([1, 3, 4].map fun n => (n, o n)))) K)
 (opsB C I R_o1 (St.mk (look [(1, (s 1)), (3, (s 3)), (4, (s 4)), (5, (s 5)), (7, (s 7)), (30, (V.tup [])), (33, (V.tup []))]) (looko ([1, 3, 4].map fun n => (n, o n)))) K)) := rfl

theorem g_law17_awake_c0_sh {C : Ctx} {I : Nat → Prop} {s : Nat → V} {o : Nat → Option Ob} {Q : Ex → St → Prop} : wpB C I (.ret) (St.mk s o) Q =
 (Q .ret (St.mk s o)) := rfl

theorem g_law17_awake_c1_sh {R_o0 : List AOper} {R_c0 : ACode} {C : Ctx} {I : Nat → Prop} {s : Nat → V} {o : Nat → Option Ob} {Q : Ex → St → Prop} : wpB C I (.seq (.region [0] (some []) none
    (⟨some 28, .mv (.t 2), [], [], none, none⟩ ::
     ⟨some 29, .bin .eql (.t 28) (.c (.d (.int .i64 0))), [], [], none, none⟩ ::
     ⟨some 30, .mv (.t 29), [], [], none, (some ([1, 3, 4, 5, 7, 30], (some [1, 3, 4])))⟩ ::
     R_o0))
 (R_c0)) (St.mk s o) Q =
 (demand (binV BinOp.eql (s 2) (V.d (.int .i64 0))) (fun x1 =>
opsB C I R_o0 (St.mk (look [(1, (s 1)), (3, (s 3)), (4, (s 4)), (5, (s 5)), (7, (s 7)), (30, x1)]) (looko ([1, 3, 4].map fun n => (n, o n)))) (fun st => (seqK (fun st => wpB C I R_c0 st Q) Q) .normal (St.trim st [0] (some []))))) := rfl

theorem g_law17_awake_c2_sh {R_c1 : ACode} {C : Ctx} {I : Nat → Prop} {s : Nat → V} {o : Nat → Option Ob} {Q : Ex → St → Prop} : wpB C I (.seq (.region [1, 2, 3, 4, 5, 7] (some [1, 3, 4]) none
    [⟨some 23, .load (some 1) (.t 1), [], [], none, none⟩,
     ⟨some 24, .build [.d (.int .i64 0), .d (.int .i64 0), .d (.int .i64 0), .d (.int .i64 0), .d (.int .i64 0), .cap0, .d (.int .i64 0), .d (.int .i64 0), .d (.int .i64 0), .d (.int .i64 0), .d (.int .i64 0), .d (.int .i64 0), .d (.int .i64 0), .d (.int .i64 0), .d (.int .i64 0), .d (.int .i64 0), .d (.int .i64 0), .d (.int .i64 0), .cap0, .cap0, .cap0, .cap0] [(1, 1, (.c (.d (.int .i64 24276)))), (2, 1, (.c (.d (.int .i64 1))))], [], [], none, none⟩,
     ⟨some 25, .call 5 [(.t 23), (.t 24)], [], [], none, none⟩,
     ⟨some 22, .mv (.t 25), [], [], none, none⟩,
     ⟨some 26, .ext (.t 22) 0, [], [], none, none⟩,
     ⟨some 27, .ext (.t 22) 1, [], [], none, none⟩,
     ⟨some 6, .alloc 6 [.cap0], [], [], none, none⟩,
     ⟨none, .store 1 (.t 6) (.t 26), [], [], none, none⟩,
     ⟨some 7, .mv (.t 27), [], [], none, none⟩])
 (R_c1)) (St.mk s o) Q =
 (demand (loadV o (some 1) (s 1)) (fun x1 =>
demand ((buildN [V.d (.int .i64 0), V.d (.int .i64 0), V.d (.int .i64 0), V.d (.int .i64 0), V.d (.int .i64 0), V.cap0, V.d (.int .i64 0), V.d (.int .i64 0), V.d (.int .i64 0), V.d (.int .i64 0), V.d (.int .i64 0), V.d (.int .i64 0), V.d (.int .i64 0), V.d (.int .i64 0), V.d (.int .i64 0), V.d (.int .i64 0), V.d (.int .i64 0), V.d (.int .i64 0), V.cap0, V.cap0, V.cap0, V.cap0] [(1, 1, (V.d (.int .i64 24276))), (2, 1, (V.d (.int .i64 1)))]).map V.agg) (fun x2 =>
callK C I (St.mk (upd (upd s 23 x1) 24 x2) o) (some 25) 5 [x1, x2] (fun r3 or3 =>
demand (extV r3 0) (fun x4 =>
demand (extV r3 1) (fun x5 =>
(¬ I 6 ∧ Fresh (St.mk (upd (upd (upd (upd (upd (upd s 23 x1) 24 x2) 25 r3) 22 r3) 26 x4) 27 x5) or3) 6 (some 6) ∧ V.refsL 6 [V.cap0] = false ∧
storeK (V.ptr 6 0) (cellsV x4) 1 (upd or3 6 (some (Ob.box [V.cap0]))) (fun m6 ob7 =>
wpB C I R_c1 (St.mk (look [(1, (s 1)), (2, (s 2)), (3, (s 3)), (4, (s 4)), (5, (s 5)), (7, x5)]) (looko ([1, 3, 4].map fun n => (n, (upd (upd or3 6 (some (Ob.box [V.cap0]))) m6 (some ob7)) n)))) Q)))))))) := rfl

theorem g_law17_awake_c3_sh {R_c2 : ACode} {C : Ctx} {I : Nat → Prop} {s : Nat → V} {o : Nat → Option Ob} {Q : Ex → St → Prop} : wpB C I (.seq (.region [1, 2, 3, 4, 5] (some [1, 3, 4]) none
    [⟨some 18, .load (some 1) (.t 1), [], [], none, none⟩,
     ⟨some 19, .call 7 [(.t 18), (.c (.d (.int .i64 0)))], [], [], none, none⟩,
     ⟨some 17, .mv (.t 19), [], [], none, none⟩,
     ⟨some 20, .ext (.t 17) 0, [], [], none, none⟩,
     ⟨some 21, .ext (.t 17) 1, [], [], none, none⟩,
     ⟨some 4, .alloc 4 [.cap0], [], [], none, none⟩,
     ⟨none, .store 1 (.t 4) (.t 20), [], [], none, none⟩,
     ⟨some 5, .mv (.t 21), [], [], none, none⟩])
 (R_c2)) (St.mk s o) Q =
 (demand (loadV o (some 1) (s 1)) (fun x1 =>
callK C I (St.mk (upd s 18 x1) o) (some 19) 7 [x1, (V.d (.int .i64 0))] (fun r2 or2 =>
demand (extV r2 0) (fun x3 =>
demand (extV r2 1) (fun x4 =>
(¬ I 4 ∧ Fresh (St.mk (upd (upd (upd (upd (upd s 18 x1) 19 r2) 17 r2) 20 x3) 21 x4) or2) 4 (some 4) ∧ V.refsL 4 [V.cap0] = false ∧
storeK (V.ptr 4 0) (cellsV x3) 1 (upd or2 4 (some (Ob.box [V.cap0]))) (fun m5 ob6 =>
wpB C I R_c2 (St.mk (look [(1, (s 1)), (2, (s 2)), (3, (s 3)), (4, (V.ptr 4 0)), (5, x4)]) (looko ([1, 3, 4].map fun n => (n, (upd (upd or2 4 (some (Ob.box [V.cap0]))) m5 (some ob6)) n)))) Q))))))) := rfl

theorem g_law17_awake_c4_sh {R_c3 : ACode} {C : Ctx} {I : Nat → Prop} {s : Nat → V} {o : Nat → Option Ob} {Q : Ex → St → Prop} : wpB C I (.seq (.region [1, 2, 3] (some [1, 3]) none
    [⟨some 15, .load (some 1) (.t 1), [], [], none, none⟩,
     ⟨some 16, .call 6 [(.t 15), (.c (.d (.int .i64 1))), (.c (.d (.int .i64 2023))), (.c (.d (.int .i64 1)))], [], [], none, none⟩,
     ⟨some 3, .alloc 3 [.d (.int .i64 0), .d (.int .i64 0), .d (.int .i64 0), .cap0, .cap0], [], [], none, none⟩,
     ⟨none, .store 5 (.t 3) (.t 16), [], [], none, none⟩])
 (R_c3)) (St.mk s o) Q =
 (demand (loadV o (some 1) (s 1)) (fun x1 =>
callK C I (St.mk (upd s 15 x1) o) (some 16) 6 [x1, (V.d (.int .i64 1)), (V.d (.int .i64 2023)), (V.d (.int .i64 1))] (fun r2 or2 =>
(¬ I 3 ∧ Fresh (St.mk (upd (upd s 15 x1) 16 r2) or2) 3 (some 3) ∧ V.refsL 3 [V.d (.int .i64 0), V.d (.int .i64 0), V.d (.int .i64 0), V.cap0, V.cap0] = false ∧
storeK (V.ptr 3 0) (cellsV r2) 5 (upd or2 3 (some (Ob.box [V.d (.int .i64 0), V.d (.int .i64 0), V.d (.int .i64 0), V.cap0, V.cap0]))) (fun m3 ob4 =>
wpB C I R_c3 (St.mk (look [(1, (s 1)), (2, (s 2)), (3, (V.ptr 3 0))]) (looko ([1, 3].map fun n => (n, (upd (upd or2 3 (some (Ob.box [V.d (.int .i64 0), V.d (.int .i64 0), V.d (.int .i64 0), V.cap0, V.cap0]))) m3 (some ob4)) n)))) Q))))) := rfl

theorem g_law17_awake_code_sh {R_c4 : ACode} {C : Ctx} {I : Nat → Prop} {s : Nat → V} {o : Nat → Option Ob} {Q : Ex → St → Prop} : wpB C I (.seq (.region [] (some []) none
    [⟨some 0, .mv (.c (.d (.bool false))), [], [], none, none⟩])
 (.seq (.region [1, 2] (some [1]) none
     [⟨some 9, .build [.cap0] [], [], [], none, none⟩,
      ⟨some 10, .build [.cap0, .d (.int .i64 0), .d (.int .i64 0), .d (.int .i64 0), .d (.int .i64 0), .d (.int .i64 0), .d (.int .i64 0), .d (.int .i64 0), .d (.int .i64 0), .d (.int .i64 0), .d (.int .i64 0), .d (.int .i64 0), .d (.int .i64 0), .cap0, .cap0, .cap0] [(7, 1, (.c (.d (.int .i64 7))))], [], [], none, none⟩,
      ⟨some 11, .build [.d (.int .i64 0), .d (.int .i64 0), .d (.int .i64 0), .d (.int .i64 0), .d (.int .i64 0), .cap0, .d (.int .i64 0), .d (.int .i64 0), .d (.int .i64 0), .d (.int .i64 0), .d (.int .i64 0), .d (.int .i64 0), .d (.int .i64 0), .d (.int .i64 0), .d (.int .i64 0), .d (.int .i64 0), .d (.int .i64 0), .d (.int .i64 0), .cap0, .cap0, .cap0, .cap0] [(1, 1, (.c (.d (.int .i64 24276)))), (2, 1, (.c (.d (.int .i64 1)))), (5, 16, (.t 10))], [], [], none, none⟩,
      ⟨some 12, .call 5 [(.t 9), (.t 11)], [], [], none, none⟩,
      ⟨some 8, .mv (.t 12), [], [], none, none⟩,
      ⟨some 13, .ext (.t 8) 0, [], [], none, none⟩,
      ⟨some 14, .ext (.t 8) 1, [], [], none, none⟩,
      ⟨some 1, .alloc 1 [.cap0], [], [], none, none⟩,
      ⟨none, .store 1 (.t 1) (.t 13), [], [], none, none⟩,
      ⟨some 2, .mv (.t 14), [], [], none, none⟩])
  (R_c4))) (St.mk s o) Q =
 (demand ((buildN [V.cap0] []).map V.agg) (fun x1 =>
demand ((buildN [V.cap0, V.d (.int .i64 0), V.d (.int .i64 0), V.d (.int .i64 0), V.d (.int .i64 0), V.d (.int .i64 0), V.d (.int .i64 0), V.d (.int .i64 0), V.d (.int .i64 0), V.d (.int .i64 0), V.d (.int .i64 0), V.d (.int .i64 0), V.d (.int .i64 0), V.cap0, V.cap0, V.cap0] [(7, 1, (V.d (.int .i64 7)))]).map V.agg) (fun x2 =>
demand ((buildN [V.d (.int .i64 0), V.d (.int .i64 0), V.d (.int .i64 0), V.d (.int .i64 0), V.d (.int .i64 0), V.cap0, V.d (.int .i64 0), V.d (.int .i64 0), V.d (.int .i64 0), V.d (.int .i64 0), V.d (.int .i64 0), V.d (.int .i64 0), V.d (.int .i64 0), V.d (.int .i64 0), V.d (.int .i64 0), V.d (.int .i64 0), V.d (.int .i64 0), V.d (.int .i64 0), V.cap0, V.cap0, V.cap0, V.cap0] [(1, 1, (V.d (.int .i64 24276))), (2, 1, (V.d (.int .i64 1))), (5, 16, x2)]).map V.agg) (fun x3 =>
callK C I (St.mk (upd (upd (upd (look []) 9 x1) 10 x2) 11 x3) (looko ([].map fun n => (n, o n)))) (some 12) 5 [x1, x3] (fun r4 or4 =>
demand (extV r4 0) (fun x5 =>
demand (extV r4 1) (fun x6 =>
(¬ I 1 ∧ Fresh (St.mk (upd (upd (upd (upd (upd (upd (upd (look []) 9 x1) 10 x2) 11 x3) 12 r4) 8 r4) 13 x5) 14 x6) or4) 1 (some 1) ∧ V.refsL 1 [V.cap0] = false ∧
storeK (V.ptr 1 0) (cellsV x5) 1 (upd or4 1 (some (Ob.box [V.cap0]))) (fun m7 ob8 =>
wpB C I R_c4 (St.mk (look [(1, (V.ptr 1 0)), (2, x6)]) (looko ([1].map fun n => (n, (upd (upd or4 1 (some (Ob.box [V.cap0]))) m7 (some ob8)) n)))) Q))))))))) := rfl

theorem g_book_Add_c0_sh {C : Ctx} {I : Nat → Prop} {s : Nat → V} {o : Nat → Option Ob} {Q : Ex → St → Prop} : wpB C I (.seq (.region [4, 5] (some [4]) (some ([0, 1, 3, 4], .one 2 (.one 5 (.one 6 (.one 7 (.one 8 (.done)))))))
    [⟨some 20, .faddr 0 (.t 2), [], [], none, none⟩,
     ⟨some 21, .load none (.t 20), [], [0], none, none⟩,
     ⟨some 22, .call 14 [(.t 21)], [], [1], none, none⟩,
     ⟨some 23, .load (some 22) (.t 3), [], [], none, none⟩,
     ⟨some 24, .bsl none 22 [] 1 [(0, (.t 23))], [], [3], none, none⟩,
     ⟨some 25, .app none 22 256 (.t 22) (.t 24), [], [2, 4, 2], none, none⟩,
     ⟨some 26, .build [.cap0] [(0, 1, (.t 25))], [], [5], none, none⟩,
     ⟨none, .store 1 (.t 4) (.t 26), [], [6, 5, 0, 1, 2, 3, 4, 5, 6], none, none⟩,
     ⟨some 5, .mv (.c (.d (.int .i64 0))), [], [7, 0, 1, 2, 3, 4, 5, 6, 7], none, none⟩])
 (.ret)) (St.mk s o) Q =
 ((s 20) = V.undef ∧ (demand (faddrV 0 (s 2)) (fun x1 => quietV o (x1 :: [(s 2)]) ∧
(s 21) = V.undef ∧ (demand (loadV o none x1) (fun x2 => quietV o (x2 :: [x1]) ∧
(s 23) = V.undef ∧ (demand (loadV o (some 22) (s 3)) (fun x3 => quietV o (x3 :: [(s 3)]) ∧
(s 24) = V.undef ∧ (lstK (partsN 22 [x3]) (fun x4 => quietV o ((V.d (D.sl x4)) :: [x3]) ∧
(([] : List Nat) = [] ∧ (callE C I (St.mk (upd (upd (upd (upd s 20 x1) 21 x2) 23 x3) 24 (V.d (D.sl x4))) o) (some 22) 14 [x2] (fun r5 or5 =>
(([] : List Nat) = [] ∧ ((lstK (readD or5 (V.d (D.sl x4))) (fun ys6 => (∀ e ∈ ys6, e.length = 22) ∧ appK r5
 (ys6.length * 256 ≤ 140737488355328 ∧ ys6.length ≤ 140737488355328 ∧
(([] : List Nat) = [] ∧ (demand ((buildN [V.cap0] [(0, 1, (V.d (D.sl ys6)))]).map V.agg) (fun x11 =>
(([] : List Nat) = [] ∧ (storeK (s 4) (cellsV x11) 1 or5 (fun m12 ob13 =>
(([] : List Nat) = [] ∧ (Q .ret (St.mk (look [(4, (s 4)), (5, (V.d (.int .i64 0)))]) (looko ([4].map fun n => (n, (upd or5 m12 (some ob13)) n)))))))))))))
 (fun m7 => ¬ I m7 ∧ rowK (or5 m7) (fun z8 es9 => z8 = 22 ∧ (es9.length + ys6.length) * 256 ≤ 140737488355328 ∧ es9.length + ys6.length ≤ 140737488355328 ∧
freeK (St.mk (upd (fun t => scrubV m7 ((upd (upd (upd (upd (upd s 20 x1) 21 x2) 23 x3) 24 (V.d (D.sl x4))) 22 r5) t)) 25 (V.own m7)) (upd (fun n => (or5 n).map (Ob.scrub m7)) m7 (some (Ob.row 22 (es9 ++ ys6))))) m7 (fun st10 =>
(([] : List Nat) = [] ∧ (demand ((buildN [V.cap0] [(0, 1, (st10.s 25))]).map V.agg) (fun x14 =>
(([] : List Nat) = [] ∧ (storeK (st10.s 4) (cellsV x14) 1 st10.o (fun m15 ob16 =>
(([] : List Nat) = [] ∧ (Q .ret (St.mk (look [(4, (st10.s 4)), (5, (V.d (.int .i64 0)))]) (looko ([4].map fun n => (n, (upd st10.o m15 (some ob16)) n))))))))))))))))) ∧ ∀ m, r5 = .own m → ∀ n cs, or5 n = some (.box cs) → V.refsL m cs = false)))))))))))))) := rfl

theorem g_book_Add_c1_sh {R_c0 : ACode} {C : Ctx} {I : Nat → Prop} {s : Nat → V} {o : Nat → Option Ob} {Q : Ex → St → Prop} : wpB C I (.seq (.block 0 [2, 3, 4] (some [2, 3, 4]) (.seq (.region [2, 3, 4, 6] (some [2, 3, 4]) none
      [⟨some 7, .faddr 4 (.t 3), [], [], none, none⟩,
       ⟨some 8, .load none (.t 7), [], [], none, none⟩,
       ⟨some 9, .bin .neq (.t 8) (.c (.d (.int .i64 0))), [], [], none, none⟩,
       ⟨some 6, .mv (.t 9), [], [], none, none⟩])
   (.cond (.t 6) (.seq (.region [4, 5] (some [4]) none
        [⟨some 10, .load (some 1) (.t 2), [], [], none, none⟩,
         ⟨none, .store 1 (.t 4) (.t 10), [], [], none, none⟩,
         ⟨some 5, .mv (.c (.d (.int .i64 1))), [], [], none, none⟩])
     (.ret))
    (.seq (.region [2, 3, 4, 11] (some [2, 3, 4]) none
        [⟨some 12, .load (some 1) (.t 2), [], [], none, none⟩,
         ⟨some 13, .faddr 2 (.t 3), [], [], none, none⟩,
         ⟨some 14, .load none (.t 13), [], [], none, none⟩,
         ⟨some 15, .faddr 1 (.t 3), [], [], none, none⟩,
         ⟨some 16, .load none (.t 15), [], [], none, none⟩,
         ⟨some 17, .call 8 [(.t 12), (.t 14), (.t 16)], [], [], none, none⟩,
         ⟨some 18, .bin .geq (.t 17) (.c (.d (.int .i64 0))), [], [], none, none⟩,
         ⟨some 11, .mv (.t 18), [], [], none, none⟩])
     (.cond (.t 11) (.seq (.region [4, 5] (some [4]) none
          [⟨some 19, .load (some 1) (.t 2), [], [], none, none⟩,
           ⟨none, .store 1 (.t 4) (.t 19), [], [], none, none⟩,
           ⟨some 5, .mv (.c (.d (.int .i64 6))), [], [], none, none⟩])
       (.ret))
      (.skip))))))
 (R_c0)) (St.mk s o) Q =
 (demand (faddrV 4 (s 3)) (fun x1 =>
demand (loadV o none x1) (fun x2 =>
demand (binV BinOp.neq x2 (V.d (.int .i64 0))) (fun x3 =>
condK x3
 (demand (loadV (looko ([2, 3, 4].map fun n => (n, o n))) (some 1) (s 2)) (fun x4 =>
storeK (s 4) (cellsV x4) 1 (looko ([2, 3, 4].map fun n => (n, o n))) (fun m5 ob6 =>
Q .ret (St.mk (look [(4, (s 4)), (5, (V.d (.int .i64 1)))]) (looko ([4].map fun n => (n, (upd (looko ([2, 3, 4].map fun n => (n, o n))) m5 (some ob6)) n)))))))
 (demand (loadV (looko ([2, 3, 4].map fun n => (n, o n))) (some 1) (s 2)) (fun x7 =>
demand (faddrV 2 (s 3)) (fun x8 =>
demand (loadV (looko ([2, 3, 4].map fun n => (n, o n))) none x8) (fun x9 =>
demand (faddrV 1 (s 3)) (fun x10 =>
demand (loadV (looko ([2, 3, 4].map fun n => (n, o n))) none x10) (fun x11 =>
callK C I (St.mk (upd (upd (upd (upd (upd (look [(2, (s 2)), (3, (s 3)), (4, (s 4)), (6, x3)]) 12 x7) 13 x8) 14 x9) 15 x10) 16 x11) (looko ([2, 3, 4].map fun n => (n, o n)))) (some 17) 8 [x7, x9, x11] (fun r12 or12 =>
demand (binV BinOp.geq r12 (V.d (.int .i64 0))) (fun x13 =>
condK x13
 (demand (loadV (looko ([2, 3, 4].map fun n => (n, or12 n))) (some 1) (s 2)) (fun x14 =>
storeK (s 4) (cellsV x14) 1 (looko ([2, 3, 4].map fun n => (n, or12 n))) (fun m15 ob16 =>
Q .ret (St.mk (look [(4, (s 4)), (5, (V.d (.int .i64 6)))]) (looko ([4].map fun n => (n, (upd (looko ([2, 3, 4].map fun n => (n, or12 n))) m15 (some ob16)) n)))))))
 (wpB C I R_c0 (St.mk (look [(2, (s 2)), (3, (s 3)), (4, (s 4))]) (looko ([2, 3, 4].map fun n => (n, or12 n)))) Q))))))))))))) := rfl

theorem g_book_Add_code_sh {R_c1 : ACode} {C : Ctx} {I : Nat → Prop} {s : Nat → V} {o : Nat → Option Ob} {Q : Ex → St → Prop} : wpB C I (.seq (.region [2, 3, 4] (some [2, 3, 4]) none
    [⟨some 2, .box 2 1 (.t 0), [], [], none, none⟩,
     ⟨some 3, .box 3 22 (.t 1), [], [], none, none⟩,
     ⟨some 4, .alloc 4 [.cap0], [], [], none, none⟩,
     ⟨some 5, .mv (.c (.d (.int .i64 0))), [], [], none, none⟩])
 (R_c1)) (St.mk s o) Q =
 (lstK (cellsV (s 0)) (fun c1 => c1.length = 1 ∧ ¬ I 2 ∧ Fresh (St.mk s o) 2 (some 2) ∧ V.refsL 2 c1 = false ∧
lstK (cellsV (s 1)) (fun c2 => c2.length = 22 ∧ ¬ I 3 ∧ Fresh (St.mk (upd s 2 (V.ptr 2 0)) (upd o 2 (some (Ob.box c1)))) 3 (some 3) ∧ V.refsL 3 c2 = false ∧
(¬ I 4 ∧ Fresh (St.mk (upd (upd s 2 (V.ptr 2 0)) 3 (V.ptr 3 0)) (upd (upd o 2 (some (Ob.box c1))) 3 (some (Ob.box c2)))) 4 (some 4) ∧ V.refsL 4 [V.cap0] = false ∧
wpB C I R_c1 (St.mk (look [(2, (V.ptr 2 0)), (3, (V.ptr 3 0)), (4, (V.ptr 4 0))]) (looko ([2, 3, 4].map fun n => (n, (upd (upd (upd o 2 (some (Ob.box c1))) 3 (some (Ob.box c2))) 4 (some (Ob.box [V.cap0]))) n)))) Q)))) := rfl

theorem g_book_Reverse_o1_sh {C : Ctx} {I : Nat → Prop} {s : Nat → V} {o : Nat → Option Ob} {K : St → Prop} : opsB C I [⟨some 16, .pick (.t 10) (.c (.d (.bool true))) (.t 15), [], [], none, none⟩,
     ⟨some 7, .mv (.t 16), [], [], none, none⟩] (St.mk s o) K =
 (demand (pickV (s 10) (V.d (.bool true)) (s 15)) (fun x1 =>
K (St.mk (upd (upd s 16 x1) 7 x1) o))) := rfl

theorem g_book_Reverse_o0_sh {R_o1 : List AOper} {C : Ctx} {I : Nat → Prop} {s : Nat → V} {o : Nat → Option Ob} {K : St → Prop} : opsB C I (⟨some 11, .mv (.t 1), [], [], (some (2, 10, false)), none⟩ ::
     ⟨some 12, .faddr 0 (.t 2), [], [], (some (2, 10, false)), none⟩ ::
     ⟨some 13, .load none (.t 12), [], [], (some (2, 10, false)), none⟩ ::
     ⟨some 14, .len (.t 13), [], [], (some (2, 10, false)), none⟩ ::
     ⟨some 15, .bin .geq (.t 11) (.t 14), [], [], (some (2, 10, false)), (some ([1, 2, 4, 10, 15], (some [2, 4])))⟩ ::
     R_o1) (St.mk s o) K =
 (guardK (s 10) false
 (demand (faddrV 0 (s 2)) (fun x1 =>
demand (loadV o none x1) (fun x2 =>
demand (lenV o x2) (fun x3 =>
demand (binV BinOp.geq (s 1) x3) (fun x4 =>
opsB C I R_o1 (St.mk (look [(1, (s 1)), (2, (s 2)), (4, (s 4)), (10, (V.d (D.bool false))), (15, x4)]) (looko ([2, 4].map fun n => (n, o n)))) K)))))
 (opsB C I R_o1 (St.mk (look [(1, (s 1)), (2, (s 2)), (4, (s 4)), (10, (V.d (D.bool true))), (15, (V.tup []))]) (looko ([2, 4].map fun n => (n, o n)))) K)
 (opsB C I R_o1 (St.mk (look [(1, (s 1)), (2, (s 2)), (4, (s 4)), (10, (V.tup [])), (15, (V.tup []))]) (looko ([2, 4].map fun n => (n, o n)))) K)) := rfl

theorem g_book_Reverse_c0_sh {C : Ctx} {I : Nat → Prop} {s : Nat → V} {o : Nat → Option Ob} {Q : Ex → St → Prop} : wpB C I (.cond (.t 7) (.seq (.region [4, 5] (some [4]) none
     [⟨some 17, .load (some 1) (.t 2), [], [], none, none⟩,
      ⟨none, .store 1 (.t 4) (.t 17), [], [], none, none⟩,
      ⟨some 5, .mv (.c (.d (.int .i64 5))), [], [], none, none⟩])
  (.ret))
 (.seq (.region [1, 2, 4, 18] (some [2, 4]) none
     [⟨some 19, .faddr 0 (.t 2), [], [], none, none⟩,
      ⟨some 20, .load none (.t 19), [], [], none, none⟩,
      ⟨some 21, .mv (.t 1), [], [], none, none⟩,
      ⟨some 22, .iaddr 22 (.t 20) (.t 21), [], [], none, none⟩,
      ⟨some 23, .faddr 4 (.t 22), [], [], none, none⟩,
      ⟨some 24, .load none (.t 23), [], [], none, none⟩,
      ⟨some 25, .bin .neq (.t 24) (.c (.d (.int .i64 0))), [], [], none, none⟩,
      ⟨some 18, .mv (.t 25), [], [], none, none⟩])
  (.cond (.t 18) (.seq (.region [4, 5] (some [4]) none
       [⟨some 26, .load (some 1) (.t 2), [], [], none, none⟩,
        ⟨none, .store 1 (.t 4) (.t 26), [], [], none, none⟩,
        ⟨some 5, .mv (.c (.d (.int .i64 1))), [], [], none, none⟩])
    (.ret))
   (.seq (.region [1, 2, 4, 27] (some [2, 4]) none
       [⟨some 28, .load (some 1) (.t 2), [], [], none, none⟩,
        ⟨some 29, .mv (.t 1), [], [], none, none⟩,
        ⟨some 30, .call 9 [(.t 28), (.t 29)], [], [], none, none⟩,
        ⟨some 31, .un .not (.t 30), [], [], none, none⟩,
        ⟨some 27, .mv (.t 31), [], [], none, none⟩])
    (.cond (.t 27) (.seq (.region [4, 5] (some [4]) none
         [⟨some 32, .load (some 1) (.t 2), [], [], none, none⟩,
          ⟨none, .store 1 (.t 4) (.t 32), [], [], none, none⟩,
          ⟨some 5, .mv (.c (.d (.int .i64 6))), [], [], none, none⟩])
      (.ret))
     (.skip)))))) (St.mk s o) Q =
 (condK (s 7)
 (demand (loadV o (some 1) (s 2)) (fun x1 =>
storeK (s 4) (cellsV x1) 1 o (fun m2 ob3 =>
Q .ret (St.mk (look [(4, (s 4)), (5, (V.d (.int .i64 5)))]) (looko ([4].map fun n => (n, (upd o m2 (some ob3)) n)))))))
 (demand (faddrV 0 (s 2)) (fun x4 =>
demand (loadV o none x4) (fun x5 =>
demand (iaddrV o 22 x5 (s 1)) (fun x6 =>
demand (faddrV 4 x6) (fun x7 =>
demand (loadV o none x7) (fun x8 =>
demand (binV BinOp.neq x8 (V.d (.int .i64 0))) (fun x9 =>
condK x9
 (demand (loadV (looko ([2, 4].map fun n => (n, o n))) (some 1) (s 2)) (fun x10 =>
storeK (s 4) (cellsV x10) 1 (looko ([2, 4].map fun n => (n, o n))) (fun m11 ob12 =>
Q .ret (St.mk (look [(4, (s 4)), (5, (V.d (.int .i64 1)))]) (looko ([4].map fun n => (n, (upd (looko ([2, 4].map fun n => (n, o n))) m11 (some ob12)) n)))))))
 (demand (loadV (looko ([2, 4].map fun n => (n, o n))) (some 1) (s 2)) (fun x13 =>
callK C I (St.mk (upd (upd (look [(1, (s 1)), (2, (s 2)), (4, (s 4)), (18, x9)]) 28 x13) 29 (s 1)) (looko ([2, 4].map fun n => (n, o n)))) (some 30) 9 [x13, (s 1)] (fun r14 or14 =>
demand (unV UnOp.not r14) (fun x15 =>
condK x15
 (demand (loadV (looko ([2, 4].map fun n => (n, or14 n))) (some 1) (s 2)) (fun x16 =>
storeK (s 4) (cellsV x16) 1 (looko ([2, 4].map fun n => (n, or14 n))) (fun m17 ob18 =>
Q .ret (St.mk (look [(4, (s 4)), (5, (V.d (.int .i64 6)))]) (looko ([4].map fun n => (n, (upd (looko ([2, 4].map fun n => (n, or14 n))) m17 (some ob18)) n)))))))
 (Q .normal (St.mk (look [(1, (s 1)), (2, (s 2)), (4, (s 4)), (27, x15)]) (looko ([2, 4].map fun n => (n, or14 n))))))))))))))))) := rfl

theorem g_book_Reverse_c1_sh {C : Ctx} {I : Nat → Prop} {s : Nat → V} {o : Nat → Option Ob} {Q : Ex → St → Prop} : wpB C I (.seq (.region [4, 5] (some [4]) (some ([0, 1, 3, 4], .one 2 (.one 5 (.one 6 (.one 7 (.one 8 (.done)))))))
    [⟨some 41, .faddr 0 (.t 2), [], [], none, none⟩,
     ⟨some 42, .load none (.t 41), [], [0], none, none⟩,
     ⟨some 43, .call 14 [(.t 42)], [], [1], none, none⟩,
     ⟨some 44, .load (some 22) (.t 6), [], [], none, none⟩,
     ⟨some 45, .bsl none 22 [] 1 [(0, (.t 44))], [], [3], none, none⟩,
     ⟨some 46, .app none 22 256 (.t 43) (.t 45), [], [2, 4, 2], none, none⟩,
     ⟨some 47, .build [.cap0] [(0, 1, (.t 46))], [], [5], none, none⟩,
     ⟨none, .store 1 (.t 4) (.t 47), [], [6, 5, 0, 1, 2, 3, 4, 5, 6], none, none⟩,
     ⟨some 5, .mv (.c (.d (.int .i64 0))), [], [7, 0, 1, 2, 3, 4, 5, 6, 7], none, none⟩])
 (.ret)) (St.mk s o) Q =
 ((s 41) = V.undef ∧ (demand (faddrV 0 (s 2)) (fun x1 => quietV o (x1 :: [(s 2)]) ∧
(s 42) = V.undef ∧ (demand (loadV o none x1) (fun x2 => quietV o (x2 :: [x1]) ∧
(s 44) = V.undef ∧ (demand (loadV o (some 22) (s 6)) (fun x3 => quietV o (x3 :: [(s 6)]) ∧
(s 45) = V.undef ∧ (lstK (partsN 22 [x3]) (fun x4 => quietV o ((V.d (D.sl x4)) :: [x3]) ∧
(([] : List Nat) = [] ∧ (callE C I (St.mk (upd (upd (upd (upd s 41 x1) 42 x2) 44 x3) 45 (V.d (D.sl x4))) o) (some 43) 14 [x2] (fun r5 or5 =>
(([] : List Nat) = [] ∧ ((lstK (readD or5 (V.d (D.sl x4))) (fun ys6 => (∀ e ∈ ys6, e.length = 22) ∧ appK r5
 (ys6.length * 256 ≤ 140737488355328 ∧ ys6.length ≤ 140737488355328 ∧
(([] : List Nat) = [] ∧ (demand ((buildN [V.cap0] [(0, 1, (V.d (D.sl ys6)))]).map V.agg) (fun x11 =>
(([] : List Nat) = [] ∧ (storeK (s 4) (cellsV x11) 1 or5 (fun m12 ob13 =>
(([] : List Nat) = [] ∧ (Q .ret (St.mk (look [(4, (s 4)), (5, (V.d (.int .i64 0)))]) (looko ([4].map fun n => (n, (upd or5 m12 (some ob13)) n)))))))))))))
 (fun m7 => ¬ I m7 ∧ rowK (or5 m7) (fun z8 es9 => z8 = 22 ∧ (es9.length + ys6.length) * 256 ≤ 140737488355328 ∧ es9.length + ys6.length ≤ 140737488355328 ∧
freeK (St.mk (upd (fun t => scrubV m7 ((upd (upd (upd (upd (upd s 41 x1) 42 x2) 44 x3) 45 (V.d (D.sl x4))) 43 r5) t)) 46 (V.own m7)) (upd (fun n => (or5 n).map (Ob.scrub m7)) m7 (some (Ob.row 22 (es9 ++ ys6))))) m7 (fun st10 =>
(([] : List Nat) = [] ∧ (demand ((buildN [V.cap0] [(0, 1, (st10.s 46))]).map V.agg) (fun x14 =>
(([] : List Nat) = [] ∧ (storeK (st10.s 4) (cellsV x14) 1 st10.o (fun m15 ob16 =>
(([] : List Nat) = [] ∧ (Q .ret (St.mk (look [(4, (st10.s 4)), (5, (V.d (.int .i64 0)))]) (looko ([4].map fun n => (n, (upd st10.o m15 (some ob16)) n))))))))))))))))) ∧ ∀ m, r5 = .own m → ∀ n cs, or5 n = some (.box cs) → V.refsL m cs = false)))))))))))))) := rfl

theorem g_book_Reverse_c2_sh {R_c1 : ACode} {C : Ctx} {I : Nat → Prop} {s : Nat → V} {o : Nat → Option Ob} {Q : Ex → St → Prop} : wpB C I (.seq (.region [2, 4, 6] (some [2, 4, 6]) none
    [⟨some 38, .mv (.t 1), [], [], none, none⟩,
     ⟨some 39, .bin .add (.t 38) (.c (.d (.int .i64 1))), [], [], none, none⟩,
     ⟨some 40, .faddr 4 (.t 6), [], [], none, none⟩,
     ⟨none, .store 1 (.t 40) (.t 39), [], [], none, none⟩])
 (R_c1)) (St.mk s o) Q =
 (demand (binV BinOp.add (s 1) (V.d (.int .i64 1))) (fun x1 =>
demand (faddrV 4 (s 6)) (fun x2 =>
storeK x2 (cellsV x1) 1 o (fun m3 ob4 =>
wpB C I R_c1 (St.mk (look [(2, (s 2)), (4, (s 4)), (6, (s 6))]) (looko ([2, 4, 6].map fun n => (n, (upd o m3 (some ob4)) n)))) Q)))) := rfl

theorem g_book_Reverse_c3_sh {R_c2 : ACode} {C : Ctx} {I : Nat → Prop} {s : Nat → V} {o : Nat → Option Ob} {Q : Ex → St → Prop} : wpB C I (.seq (.region [1, 2, 4, 6] (some [2, 4, 6]) none
    [⟨some 33, .faddr 0 (.t 2), [], [], none, none⟩,
     ⟨some 34, .load none (.t 33), [], [], none, none⟩,
     ⟨some 35, .mv (.t 1), [], [], none, none⟩,
     ⟨some 36, .iaddr 22 (.t 34) (.t 35), [], [], none, none⟩,
     ⟨some 37, .load (some 22) (.t 36), [], [], none, none⟩,
     ⟨some 6, .alloc 6 [.d (.int .i64 0), .d (.int .i64 0), .d (.int .i64 0), .d (.int .i64 0), .d (.int .i64 0), .cap0, .d (.int .i64 0), .d (.int .i64 0), .d (.int .i64 0), .d (.int .i64 0), .d (.int .i64 0), .d (.int .i64 0), .d (.int .i64 0), .d (.int .i64 0), .d (.int .i64 0), .d (.int .i64 0), .d (.int .i64 0), .d (.int .i64 0), .cap0, .cap0, .cap0, .cap0], [], [], none, none⟩,
     ⟨none, .store 22 (.t 6) (.t 37), [], [], none, none⟩])
 (R_c2)) (St.mk s o) Q =
 (demand (faddrV 0 (s 2)) (fun x1 =>
demand (loadV o none x1) (fun x2 =>
demand (iaddrV o 22 x2 (s 1)) (fun x3 =>
demand (loadV o (some 22) x3) (fun x4 =>
(¬ I 6 ∧ Fresh (St.mk (upd (upd (upd (upd (upd s 33 x1) 34 x2) 35 (s 1)) 36 x3) 37 x4) o) 6 (some 6) ∧ V.refsL 6 [V.d (.int .i64 0), V.d (.int .i64 0), V.d (.int .i64 0), V.d (.int .i64 0), V.d (.int .i64 0), V.cap0, V.d (.int .i64 0), V.d (.int .i64 0), V.d (.int .i64 0), V.d (.int .i64 0), V.d (.int .i64 0), V.d (.int .i64 0), V.d (.int .i64 0), V.d (.int .i64 0), V.d (.int .i64 0), V.d (.int .i64 0), V.d (.int .i64 0), V.d (.int .i64 0), V.cap0, V.cap0, V.cap0, V.cap0] = false ∧
storeK (V.ptr 6 0) (cellsV x4) 22 (upd o 6 (some (Ob.box [V.d (.int .i64 0), V.d (.int .i64 0), V.d (.int .i64 0), V.d (.int .i64 0), V.d (.int .i64 0), V.cap0, V.d (.int .i64 0), V.d (.int .i64 0), V.d (.int .i64 0), V.d (.int .i64 0), V.d (.int .i64 0), V.d (.int .i64 0), V.d (.int .i64 0), V.d (.int .i64 0), V.d (.int .i64 0), V.d (.int .i64 0), V.d (.int .i64 0), V.d (.int .i64 0), V.cap0, V.cap0, V.cap0, V.cap0]))) (fun m5 ob6 =>
wpB C I R_c2 (St.mk (look [(1, (s 1)), (2, (s 2)), (4, (s 4)), (6, (V.ptr 6 0))]) (looko ([2, 4, 6].map fun n => (n, (upd (upd o 6 (some (Ob.box [V.d (.int .i64 0), V.d (.int .i64 0), V.d (.int .i64 0), V.d (.int .i64 0), V.d (.int .i64 0), V.cap0, V.d (.int .i64 0), V.d (.int .i64 0), V.d (.int .i64 0), V.d (.int .i64 0), V.d (.int .i64 0), V.d (.int .i64 0), V.d (.int .i64 0), V.d (.int .i64 0), V.d (.int .i64 0), V.d (.int .i64 0), V.d (.int .i64 0), V.d (.int .i64 0), V.cap0, V.cap0, V.cap0, V.cap0]))) m5 (some ob6)) n)))) Q))))))) := rfl

theorem g_book_Reverse_code_sh {R_o0 : List AOper} {R_c0 : ACode} {R_c3 : ACode} {C : Ctx} {I : Nat → Prop} {s : Nat → V} {o : Nat → Option Ob} {Q : Ex → St → Prop} : wpB C I (.seq (.region [1, 2, 4] (some [2, 4]) none
    [⟨some 2, .box 2 1 (.t 0), [], [], none, none⟩,
     ⟨some 4, .alloc 4 [.cap0], [], [], none, none⟩,
     ⟨some 5, .mv (.c (.d (.int .i64 0))), [], [], none, none⟩])
 (.seq (.block 0 [1, 2, 4] (some [2, 4]) (.seq (.region [1, 2, 4, 7] (some [2, 4]) none
       (⟨some 8, .mv (.t 1), [], [], none, none⟩ ::
        ⟨some 9, .bin .lss (.t 8) (.c (.d (.int .i64 0))), [], [], none, none⟩ ::
        ⟨some 10, .mv (.t 9), [], [], none, (some ([1, 2, 4, 10], (some [2, 4])))⟩ ::
        R_o0))
    (R_c0)))
  (R_c3))) (St.mk s o) Q =
 (lstK (cellsV (s 0)) (fun c1 => c1.length = 1 ∧ ¬ I 2 ∧ Fresh (St.mk s o) 2 (some 2) ∧ V.refsL 2 c1 = false ∧
(¬ I 4 ∧ Fresh (St.mk (upd s 2 (V.ptr 2 0)) (upd o 2 (some (Ob.box c1)))) 4 (some 4) ∧ V.refsL 4 [V.cap0] = false ∧
demand (binV BinOp.lss (s 1) (V.d (.int .i64 0))) (fun x2 =>
opsB C I R_o0 (St.mk (look [(1, (s 1)), (2, (V.ptr 2 0)), (4, (V.ptr 4 0)), (10, x2)]) (looko ([2, 4].map fun n => (n, (upd (upd o 2 (some (Ob.box c1))) 4 (some (Ob.box [V.cap0]))) n)))) (fun st => (seqK (fun st => wpB C I R_c0 st (blockK 0 [1, 2, 4] (some [2, 4]) (seqK (fun st => wpB C I R_c3 st Q) Q))) (blockK 0 [1, 2, 4] (some [2, 4]) (seqK (fun st => wpB C I R_c3 st Q) Q))) .normal (St.trim st [1, 2, 4, 7] (some [2, 4]))))))) := rfl

theorem g_book_Live_o5_sh {C : Ctx} {I : Nat → Prop} {s : Nat → V} {o : Nat → Option Ob} {K : St → Prop} : opsB C I [⟨some 29, .pick (.t 23) (.t 28) (.c (.d (.bool false))), [], [], none, none⟩,
     ⟨some 4, .mv (.t 29), [], [], none, none⟩] (St.mk s o) K =
 (demand (pickV (s 23) (s 28) (V.d (.bool false))) (fun x1 =>
K (St.mk (upd (upd s 29 x1) 4 x1) o))) := rfl

theorem g_book_Live_o4_sh {R_o5 : List AOper} {C : Ctx} {I : Nat → Prop} {s : Nat → V} {o : Nat → Option Ob} {K : St → Prop} : opsB C I (⟨some 24, .faddr 0 (.t 2), [], [], (some (18, 23, true)), none⟩ ::
     ⟨some 25, .load none (.t 24), [], [], (some (18, 23, true)), none⟩ ::
     ⟨some 26, .fnv 30 [(.t 3)], [], [], (some (18, 23, true)), none⟩ ::
     ⟨some 27, .call 15 [(.t 25), (.t 26)], [], [], (some (18, 23, true)), none⟩ ::
     ⟨some 28, .un .not (.t 27), [], [], (some (18, 23, true)), (some ([23, 28], (some [])))⟩ ::
     R_o5) (St.mk s o) K =
 (guardK (s 23) true
 (demand (faddrV 0 (s 2)) (fun x1 =>
demand (loadV o none x1) (fun x2 =>
callK C I (St.mk (upd (upd (upd (upd (upd (upd (upd s 23 (V.d (D.bool true))) 24 x1) 23 (V.d (D.bool true))) 25 x2) 23 (V.d (D.bool true))) 26 (V.fn 30 [(s 3)])) 23 (V.d (D.bool true))) o) (some 27) 15 [x2, (V.fn 30 [(s 3)])] (fun r3 or3 =>
demand (unV UnOp.not r3) (fun x4 =>
opsB C I R_o5 (St.mk (look [(23, (V.d (D.bool true))), (28, x4)]) (looko ([].map fun n => (n, or3 n)))) K)))))
 (opsB C I R_o5 (St.mk (look [(23, (V.d (D.bool false))), (28, (V.tup []))]) (looko ([].map fun n => (n, o n)))) K)
 (opsB C I R_o5 (St.mk (look [(23, (V.tup [])), (28, (V.tup []))]) (looko ([].map fun n => (n, o n)))) K)) := rfl

theorem g_book_Live_o3_sh {R_o4 : List AOper} {C : Ctx} {I : Nat → Prop} {s : Nat → V} {o : Nat → Option Ob} {K : St → Prop} : opsB C I (⟨some 22, .pick (.t 14) (.t 21) (.c (.d (.bool false))), [], [], none, none⟩ ::
     ⟨some 23, .mv (.t 22), [], [], none, (some ([2, 3, 23], (some [2, 3])))⟩ ::
     R_o4) (St.mk s o) K =
 (demand (pickV (s 14) (s 21) (V.d (.bool false))) (fun x1 =>
opsB C I R_o4 (St.mk (look [(2, (s 2)), (3, (s 3)), (23, x1)]) (looko ([2, 3].map fun n => (n, o n)))) K)) := rfl

theorem g_book_Live_o2_sh {R_o3 : List AOper} {C : Ctx} {I : Nat → Prop} {s : Nat → V} {o : Nat → Option Ob} {K : St → Prop} : opsB C I (⟨some 15, .faddr 0 (.t 2), [], [], (some (9, 14, true)), none⟩ ::
     ⟨some 16, .load none (.t 15), [], [], (some (9, 14, true)), none⟩ ::
     ⟨some 17, .load none (.t 3), [], [], (some (9, 14, true)), none⟩ ::
     ⟨some 18, .iaddr 22 (.t 16) (.t 17), [], [], (some (9, 14, true)), none⟩ ::
     ⟨some 19, .faddr 4 (.t 18), [], [], (some (9, 14, true)), none⟩ ::
     ⟨some 20, .load none (.t 19), [], [], (some (9, 14, true)), none⟩ ::
     ⟨some 21, .bin .eql (.t 20) (.c (.d (.int .i64 0))), [], [], (some (9, 14, true)), (some ([2, 3, 14, 21], (some [2, 3])))⟩ ::
     R_o3) (St.mk s o) K =
 (guardK (s 14) true
 (demand (faddrV 0 (s 2)) (fun x1 =>
demand (loadV o none x1) (fun x2 =>
demand (loadV o none (s 3)) (fun x3 =>
demand (iaddrV o 22 x2 x3) (fun x4 =>
demand (faddrV 4 x4) (fun x5 =>
demand (loadV o none x5) (fun x6 =>
demand (binV BinOp.eql x6 (V.d (.int .i64 0))) (fun x7 =>
opsB C I R_o3 (St.mk (look [(2, (s 2)), (3, (s 3)), (14, (V.d (D.bool true))), (21, x7)]) (looko ([2, 3].map fun n => (n, o n)))) K))))))))
 (opsB C I R_o3 (St.mk (look [(2, (s 2)), (3, (s 3)), (14, (V.d (D.bool false))), (21, (V.tup []))]) (looko ([2, 3].map fun n => (n, o n)))) K)
 (opsB C I R_o3 (St.mk (look [(2, (s 2)), (3, (s 3)), (14, (V.tup [])), (21, (V.tup []))]) (looko ([2, 3].map fun n => (n, o n)))) K)) := rfl

theorem g_book_Live_o1_sh {R_o2 : List AOper} {C : Ctx} {I : Nat → Prop} {s : Nat → V} {o : Nat → Option Ob} {K : St → Prop} : opsB C I (⟨some 13, .pick (.t 7) (.t 12) (.c (.d (.bool false))), [], [], none, none⟩ ::
     ⟨some 14, .mv (.t 13), [], [], none, (some ([2, 3, 14], (some [2, 3])))⟩ ::
     R_o2) (St.mk s o) K =
 (demand (pickV (s 7) (s 12) (V.d (.bool false))) (fun x1 =>
opsB C I R_o2 (St.mk (look [(2, (s 2)), (3, (s 3)), (14, x1)]) (looko ([2, 3].map fun n => (n, o n)))) K)) := rfl

theorem g_book_Live_o0_sh {R_o1 : List AOper} {C : Ctx} {I : Nat → Prop} {s : Nat → V} {o : Nat → Option Ob} {K : St → Prop} : opsB C I (⟨some 8, .load none (.t 3), [], [], (some (2, 7, true)), none⟩ ::
     ⟨some 9, .faddr 0 (.t 2), [], [], (some (2, 7, true)), none⟩ ::
     ⟨some 10, .load none (.t 9), [], [], (some (2, 7, true)), none⟩ ::
     ⟨some 11, .len (.t 10), [], [], (some (2, 7, true)), none⟩ ::
     ⟨some 12, .bin .lss (.t 8) (.t 11), [], [], (some (2, 7, true)), (some ([2, 3, 7, 12], (some [2, 3])))⟩ ::
     R_o1) (St.mk s o) K =
 (guardK (s 7) true
 (demand (loadV o none (s 3)) (fun x1 =>
demand (faddrV 0 (s 2)) (fun x2 =>
demand (loadV o none x2) (fun x3 =>
demand (lenV o x3) (fun x4 =>
demand (binV BinOp.lss x1 x4) (fun x5 =>
opsB C I R_o1 (St.mk (look [(2, (s 2)), (3, (s 3)), (7, (V.d (D.bool true))), (12, x5)]) (looko ([2, 3].map fun n => (n, o n)))) K))))))
 (opsB C I R_o1 (St.mk (look [(2, (s 2)), (3, (s 3)), (7, (V.d (D.bool false))), (12, (V.tup []))]) (looko ([2, 3].map fun n => (n, o n)))) K)
 (opsB C I R_o1 (St.mk (look [(2, (s 2)), (3, (s 3)), (7, (V.tup [])), (12, (V.tup []))]) (looko ([2, 3].map fun n => (n, o n)))) K)) := rfl

theorem g_book_Live_c0_sh {C : Ctx} {I : Nat → Prop} {s : Nat → V} {o : Nat → Option Ob} {Q : Ex → St → Prop} : wpB C I (.ret) (St.mk s o) Q =
 (Q .ret (St.mk s o)) := rfl

theorem g_book_Live_code_sh {R_o0 : List AOper} {R_c0 : ACode} {C : Ctx} {I : Nat → Prop} {s : Nat → V} {o : Nat → Option Ob} {Q : Ex → St → Prop} : wpB C I (.seq (.region [2, 3] (some [2, 3]) none
    [⟨some 2, .box 2 1 (.t 0), [], [], none, none⟩,
     ⟨some 3, .box 3 1 (.t 1), [], [], none, none⟩,
     ⟨some 4, .mv (.c (.d (.bool false))), [], [], none, none⟩])
 (.seq (.region [4] (some []) none
     (⟨some 5, .load none (.t 3), [], [], none, none⟩ ::
      ⟨some 6, .bin .geq (.t 5) (.c (.d (.int .i64 0))), [], [], none, none⟩ ::
      ⟨some 7, .mv (.t 6), [], [], none, (some ([2, 3, 7], (some [2, 3])))⟩ ::
      R_o0))
  (R_c0))) (St.mk s o) Q =
 (lstK (cellsV (s 0)) (fun c1 => c1.length = 1 ∧ ¬ I 2 ∧ Fresh (St.mk s o) 2 (some 2) ∧ V.refsL 2 c1 = false ∧
lstK (cellsV (s 1)) (fun c2 => c2.length = 1 ∧ ¬ I 3 ∧ Fresh (St.mk (upd s 2 (V.ptr 2 0)) (upd o 2 (some (Ob.box c1)))) 3 (some 3) ∧ V.refsL 3 c2 = false ∧
demand (loadV (looko ([2, 3].map fun n => (n, (upd (upd o 2 (some (Ob.box c1))) 3 (some (Ob.box c2))) n))) none (V.ptr 3 0)) (fun x3 =>
demand (binV BinOp.geq x3 (V.d (.int .i64 0))) (fun x4 =>
opsB C I R_o0 (St.mk (look [(2, (V.ptr 2 0)), (3, (V.ptr 3 0)), (7, x4)]) (looko ([2, 3].map fun n => (n, (upd (upd o 2 (some (Ob.box c1))) 3 (some (Ob.box c2))) n)))) (fun st => (seqK (fun st => wpB C I R_c0 st Q) Q) .normal (St.trim st [4] (some [])))))))) := rfl

theorem g_book_Find_o3_sh {C : Ctx} {I : Nat → Prop} {s : Nat → V} {o : Nat → Option Ob} {K : St → Prop} : opsB C I [⟨some 31, .pick (.t 27) (.t 30) (.c (.d (.bool false))), [], [], none, none⟩] (St.mk s o) K =
 (demand (pickV (s 27) (s 30) (V.d (.bool false))) (fun x1 =>
K (St.mk (upd s 31 x1) o))) := rfl

theorem g_book_Find_o2_sh {R_o3 : List AOper} {C : Ctx} {I : Nat → Prop} {s : Nat → V} {o : Nat → Option Ob} {K : St → Prop} : opsB C I (⟨some 28, .load (some 1) (.t 3), [], [], (some (10, 27, true)), none⟩ ::
     ⟨some 29, .mv (.t 7), [], [], (some (10, 27, true)), none⟩ ::
     ⟨some 30, .call 9 [(.t 28), (.t 29)], [], [], (some (10, 27, true)), (some ([1, 2, 3, 7, 10, 11, 12, 27, 30], (some [3])))⟩ ::
     R_o3) (St.mk s o) K =
 (guardK (s 27) true
 (demand (loadV o (some 1) (s 3)) (fun x1 =>
callK C I (St.mk (upd (upd (upd (upd (upd s 27 (V.d (D.bool true))) 28 x1) 27 (V.d (D.bool true))) 29 (s 7)) 27 (V.d (D.bool true))) o) (some 30) 9 [x1, (s 7)] (fun r2 or2 =>
opsB C I R_o3 (St.mk (look [(1, (s 1)), (2, (s 2)), (3, (s 3)), (7, (s 7)), (10, (s 10)), (11, (s 11)), (12, (s 12)), (27, (V.d (D.bool true))), (30, r2)]) (looko ([3].map fun n => (n, or2 n)))) K)))
 (opsB C I R_o3 (St.mk (look [(1, (s 1)), (2, (s 2)), (3, (s 3)), (7, (s 7)), (10, (s 10)), (11, (s 11)), (12, (s 12)), (27, (V.d (D.bool false))), (30, (V.tup []))]) (looko ([3].map fun n => (n, o n)))) K)
 (opsB C I R_o3 (St.mk (look [(1, (s 1)), (2, (s 2)), (3, (s 3)), (7, (s 7)), (10, (s 10)), (11, (s 11)), (12, (s 12)), (27, (V.tup [])), (30, (V.tup []))]) (looko ([3].map fun n => (n, o n)))) K)) := rfl

theorem g_book_Find_o1_sh {R_o2 : List AOper} {C : Ctx} {I : Nat → Prop} {s : Nat → V} {o : Nat → Option Ob} {K : St → Prop} : opsB C I (⟨some 26, .pick (.t 21) (.t 25) (.c (.d (.bool false))), [], [], none, none⟩ ::
     ⟨some 27, .mv (.t 26), [], [], none, (some ([1, 2, 3, 7, 10, 11, 12, 27], (some [3])))⟩ ::
     R_o2) (St.mk s o) K =
 (demand (pickV (s 21) (s 25) (V.d (.bool false))) (fun x1 =>
opsB C I R_o2 (St.mk (look [(1, (s 1)), (2, (s 2)), (3, (s 3)), (7, (s 7)), (10, (s 10)), (11, (s 11)), (12, (s 12)), (27, x1)]) (looko ([3].map fun n => (n, o n)))) K)) := rfl

theorem g_book_Find_o0_sh {R_o1 : List AOper} {C : Ctx} {I : Nat → Prop} {s : Nat → V} {o : Nat → Option Ob} {K : St → Prop} : opsB C I (⟨some 22, .faddr 1 (.t 8), [], [], (some (4, 21, true)), none⟩ ::
     ⟨some 23, .load none (.t 22), [], [], (some (4, 21, true)), none⟩ ::
     ⟨some 24, .mv (.t 2), [], [], (some (4, 21, true)), none⟩ ::
     ⟨some 25, .bin .eql (.t 23) (.t 24), [], [], (some (4, 21, true)), (some ([1, 2, 3, 7, 10, 11, 12, 21, 25], (some [3])))⟩ ::
     R_o1) (St.mk s o) K =
 (guardK (s 21) true
 (demand (faddrV 1 (s 8)) (fun x1 =>
demand (loadV o none x1) (fun x2 =>
demand (binV BinOp.eql x2 (s 2)) (fun x3 =>
opsB C I R_o1 (St.mk (look [(1, (s 1)), (2, (s 2)), (3, (s 3)), (7, (s 7)), (10, (s 10)), (11, (s 11)), (12, (s 12)), (21, (V.d (D.bool true))), (25, x3)]) (looko ([3].map fun n => (n, o n)))) K))))
 (opsB C I R_o1 (St.mk (look [(1, (s 1)), (2, (s 2)), (3, (s 3)), (7, (s 7)), (10, (s 10)), (11, (s 11)), (12, (s 12)), (21, (V.d (D.bool false))), (25, (V.tup []))]) (looko ([3].map fun n => (n, o n)))) K)
 (opsB C I R_o1 (St.mk (look [(1, (s 1)), (2, (s 2)), (3, (s 3)), (7, (s 7)), (10, (s 10)), (11, (s 11)), (12, (s 12)), (21, (V.tup [])), (25, (V.tup []))]) (looko ([3].map fun n => (n, o n)))) K)) := rfl

theorem g_book_Find_c0_sh {C : Ctx} {I : Nat → Prop} {s : Nat → V} {o : Nat → Option Ob} {Q : Ex → St → Prop} : wpB C I (.cond (.t 31) (.seq (.region [6] (some []) none
     [⟨some 32, .mv (.t 7), [], [], none, none⟩,
      ⟨some 6, .mv (.t 32), [], [], none, none⟩])
  (.ret))
 (.skip)) (St.mk s o) Q =
 (condK (s 31)
 (Q .ret (St.mk (look [(6, (s 7))]) (looko ([].map fun n => (n, o n)))))
 (Q .normal (St.mk s o))) := rfl

theorem g_book_Find_c1_sh {R_o0 : List AOper} {R_c0 : ACode} {C : Ctx} {I : Nat → Prop} {s : Nat → V} {o : Nat → Option Ob} {Q : Ex → St → Prop} : wpB C I (.seq (.region [1, 2, 3, 7, 10, 11, 12, 31] (some [3]) none
    (⟨some 17, .faddr 2 (.t 8), [], [], none, none⟩ ::
     ⟨some 18, .load none (.t 17), [], [], none, none⟩ ::
     ⟨some 19, .mv (.t 1), [], [], none, none⟩ ::
     ⟨some 20, .bin .eql (.t 18) (.t 19), [], [], none, none⟩ ::
     ⟨some 21, .mv (.t 20), [], [], none, (some ([1, 2, 3, 7, 8, 10, 11, 12, 21], (some [3, 8])))⟩ ::
     R_o0))
 (R_c0)) (St.mk s o) Q =
 (demand (faddrV 2 (s 8)) (fun x1 =>
demand (loadV o none x1) (fun x2 =>
demand (binV BinOp.eql x2 (s 1)) (fun x3 =>
opsB C I R_o0 (St.mk (look [(1, (s 1)), (2, (s 2)), (3, (s 3)), (7, (s 7)), (8, (s 8)), (10, (s 10)), (11, (s 11)), (12, (s 12)), (21, x3)]) (looko ([3, 8].map fun n => (n, o n)))) (fun st => (seqK (fun st => wpB C I R_c0 st Q) Q) .normal (St.trim st [1, 2, 3, 7, 10, 11, 12, 31] (some [3]))))))) := rfl

theorem g_book_Find_c2_sh {C : Ctx} {I : Nat → Prop} {s : Nat → V} {o : Nat → Option Ob} {Q : Ex → St → Prop} : wpB C I (.region [1, 2, 3, 10, 11, 12] (some [3]) none
   [⟨some 33, .bin .add (.t 12) (.c (.d (.int .i64 1))), [], [], none, none⟩,
    ⟨some 12, .mv (.t 33), [], [], none, none⟩]) (St.mk s o) Q =
 (demand (binV BinOp.add (s 12) (V.d (.int .i64 1))) (fun x1 =>
Q .normal (St.mk (look [(1, (s 1)), (2, (s 2)), (3, (s 3)), (10, (s 10)), (11, (s 11)), (12, x1)]) (looko ([3].map fun n => (n, o n)))))) := rfl

theorem g_book_Find_l0_sh {R_l0 : ACode} {R_c1 : ACode} {R_c2 : ACode} {C : Ctx} {I : Nat → Prop} {s : Nat → V} {o : Nat → Option Ob} {Q : Ex → St → Prop} (hL : R_l0 = .loop [1, 2, 3, 10, 11, 12] (some [3]) (.seq (.region [1, 2, 3, 10, 11, 12, 13] (some [3]) none
     [⟨some 13, .bin .lss (.t 12) (.t 11), [], [], none, none⟩])
  (.seq (.cond (.t 13) (.skip)
    (.exit 0))
   (.seq (.block 1 [1, 2, 3, 10, 11, 12] (some [3]) (.seq (.region [1, 2, 3, 7, 8, 10, 11, 12] (some [3, 8]) none
         [⟨some 14, .mv (.t 12), [], [], none, none⟩,
          ⟨some 15, .iaddr 22 (.t 10) (.t 12), [], [], none, none⟩,
          ⟨some 16, .load (some 22) (.t 15), [], [], none, none⟩,
          ⟨some 8, .alloc 8 [.d (.int .i64 0), .d (.int .i64 0), .d (.int .i64 0), .d (.int .i64 0), .d (.int .i64 0), .cap0, .d (.int .i64 0), .d (.int .i64 0), .d (.int .i64 0), .d (.int .i64 0), .d (.int .i64 0), .d (.int .i64 0), .d (.int .i64 0), .d (.int .i64 0), .d (.int .i64 0), .d (.int .i64 0), .d (.int .i64 0), .d (.int .i64 0), .cap0, .cap0, .cap0, .cap0], [], [], none, none⟩,
          ⟨some 7, .mv (.t 14), [], [], none, none⟩,
          ⟨none, .store 22 (.t 8) (.t 16), [], [], none, none⟩])
      (R_c1)))
    (R_c2)))))
 (h : demand (binV BinOp.lss (s 12) (s 11)) (fun x1 =>
condK x1
 (demand (iaddrV (looko ([3].map fun n => (n, o n))) 22 (s 10) (s 12)) (fun x2 =>
demand (loadV (looko ([3].map fun n => (n, o n))) (some 22) x2) (fun x3 =>
(¬ I 8 ∧ Fresh (St.mk (upd (upd (upd (look [(1, (s 1)), (2, (s 2)), (3, (s 3)), (10, (s 10)), (11, (s 11)), (12, (s 12)), (13, x1)]) 14 (s 12)) 15 x2) 16 x3) (looko ([3].map fun n => (n, o n)))) 8 (some 8) ∧ V.refsL 8 [V.d (.int .i64 0), V.d (.int .i64 0), V.d (.int .i64 0), V.d (.int .i64 0), V.d (.int .i64 0), V.cap0, V.d (.int .i64 0), V.d (.int .i64 0), V.d (.int .i64 0), V.d (.int .i64 0), V.d (.int .i64 0), V.d (.int .i64 0), V.d (.int .i64 0), V.d (.int .i64 0), V.d (.int .i64 0), V.d (.int .i64 0), V.d (.int .i64 0), V.d (.int .i64 0), V.cap0, V.cap0, V.cap0, V.cap0] = false ∧
storeK (V.ptr 8 0) (cellsV x3) 22 (upd (looko ([3].map fun n => (n, o n))) 8 (some (Ob.box [V.d (.int .i64 0), V.d (.int .i64 0), V.d (.int .i64 0), V.d (.int .i64 0), V.d (.int .i64 0), V.cap0, V.d (.int .i64 0), V.d (.int .i64 0), V.d (.int .i64 0), V.d (.int .i64 0), V.d (.int .i64 0), V.d (.int .i64 0), V.d (.int .i64 0), V.d (.int .i64 0), V.d (.int .i64 0), V.d (.int .i64 0), V.d (.int .i64 0), V.d (.int .i64 0), V.cap0, V.cap0, V.cap0, V.cap0]))) (fun m4 ob5 =>
wpB C I R_c1 (St.mk (look [(1, (s 1)), (2, (s 2)), (3, (s 3)), (7, (s 12)), (8, (V.ptr 8 0)), (10, (s 10)), (11, (s 11)), (12, (s 12))]) (looko ([3, 8].map fun n => (n, (upd (upd (looko ([3].map fun n => (n, o n))) 8 (some (Ob.box [V.d (.int .i64 0), V.d (.int .i64 0), V.d (.int .i64 0), V.d (.int .i64 0), V.d (.int .i64 0), V.cap0, V.d (.int .i64 0), V.d (.int .i64 0), V.d (.int .i64 0), V.d (.int .i64 0), V.d (.int .i64 0), V.d (.int .i64 0), V.d (.int .i64 0), V.d (.int .i64 0), V.d (.int .i64 0), V.d (.int .i64 0), V.d (.int .i64 0), V.d (.int .i64 0), V.cap0, V.cap0, V.cap0, V.cap0]))) m4 (some ob5)) n)))) (blockK 1 [1, 2, 3, 10, 11, 12] (some [3]) (seqK (fun st => wpB C I R_c2 st (seqK (fun s => wpB C I R_l0 s Q) Q)) (seqK (fun s => wpB C I R_l0 s Q) Q))))))))
 (Q (.exit 0) (St.mk (look [(1, (s 1)), (2, (s 2)), (3, (s 3)), (10, (s 10)), (11, (s 11)), (12, (s 12)), (13, x1)]) (looko ([3].map fun n => (n, o n))))))) : wpB C I R_l0 (St.mk s o) Q := w_loopC hL h

theorem g_book_Find_c3_sh {R_l0 : ACode} {C : Ctx} {I : Nat → Prop} {s : Nat → V} {o : Nat → Option Ob} {Q : Ex → St → Prop} : wpB C I (.block 0 [] (some []) (R_l0)) (St.mk s o) Q =
 (wpB C I R_l0 (St.mk s o) (blockK 0 [] (some []) Q)) := rfl

theorem g_book_Find_c4_sh {C : Ctx} {I : Nat → Prop} {s : Nat → V} {o : Nat → Option Ob} {Q : Ex → St → Prop} : wpB C I (.seq (.region [6] (some []) none
    [⟨some 6, .mv (.c (.d (.int .i64 (-1)))), [], [], none, none⟩])
 (.ret)) (St.mk s o) Q =
 (Q .ret (St.mk (look [(6, (V.d (.int .i64 (-1))))]) (looko ([].map fun n => (n, o n))))) := rfl

theorem g_book_Find_code_sh {R_c3 : ACode} {R_c4 : ACode} {C : Ctx} {I : Nat → Prop} {s : Nat → V} {o : Nat → Option Ob} {Q : Ex → St → Prop} : wpB C I (.seq (.region [1, 2, 3] (some [3]) none
    [⟨some 3, .box 3 1 (.t 0), [], [], none, none⟩,
     ⟨some 6, .mv (.c (.d (.int .i64 0))), [], [], none, none⟩])
 (.seq (.seq (.region [1, 2, 3, 10, 11, 12] (some [3]) none
      [⟨some 9, .faddr 0 (.t 3), [], [], none, none⟩,
       ⟨some 10, .load none (.t 9), [], [], none, none⟩,
       ⟨some 11, .len (.t 10), [], [], none, none⟩,
       ⟨some 12, .mv (.c (.d (.int .i64 0))), [], [], none, none⟩])
   (R_c3))
  (R_c4))) (St.mk s o) Q =
 (lstK (cellsV (s 0)) (fun c1 => c1.length = 1 ∧ ¬ I 3 ∧ Fresh (St.mk s o) 3 (some 3) ∧ V.refsL 3 c1 = false ∧
demand (faddrV 0 (V.ptr 3 0)) (fun x2 =>
demand (loadV (looko ([3].map fun n => (n, (upd o 3 (some (Ob.box c1))) n))) none x2) (fun x3 =>
demand (lenV (looko ([3].map fun n => (n, (upd o 3 (some (Ob.box c1))) n))) x3) (fun x4 =>
wpB C I R_c3 (St.mk (look [(1, (s 1)), (2, (s 2)), (3, (V.ptr 3 0)), (10, x3), (11, x4), (12, (V.d (.int .i64 0)))]) (looko ([3].map fun n => (n, (upd o 3 (some (Ob.box c1))) n)))) (seqK (fun st => wpB C I R_c4 st Q) Q)))))) := rfl

theorem g_law17_Ref_o0_sh {C : Ctx} {I : Nat → Prop} {s : Nat → V} {o : Nat → Option Ob} {K : St → Prop} : opsB C I [⟨some 44, .faddr 15 (.t 3), [], [], none, none⟩,
     ⟨some 45, .load none (.t 44), [], [], none, none⟩,
     ⟨some 46, .build [.cap0, .d (.int .i64 0), .d (.int .i64 0), .d (.int .i64 0), .d (.int .i64 0), .d (.int .i64 0), .d (.int .i64 0), .d (.int .i64 0), .d (.int .i64 0), .d (.int .i64 0), .d (.int .i64 0), .d (.int .i64 0), .d (.int .i64 0), .cap0, .cap0, .cap0] [(1, 3, (.t 25)), (4, 3, (.t 27)), (7, 1, (.t 29)), (8, 1, (.t 31)), (9, 1, (.t 33)), (10, 1, (.t 35)), (11, 1, (.t 37)), (12, 1, (.t 39)), (13, 1, (.t 41)), (14, 1, (.t 43)), (15, 1, (.t 45))], [], [], none, none⟩,
     ⟨some 47, .faddr 5 (.t 4), [], [], none, none⟩,
     ⟨none, .store 16 (.t 47) (.t 46), [], [], none, none⟩] (St.mk s o) K =
 (demand (faddrV 15 (s 3)) (fun x1 =>
demand (loadV o none x1) (fun x2 =>
demand ((buildN [V.cap0, V.d (.int .i64 0), V.d (.int .i64 0), V.d (.int .i64 0), V.d (.int .i64 0), V.d (.int .i64 0), V.d (.int .i64 0), V.d (.int .i64 0), V.d (.int .i64 0), V.d (.int .i64 0), V.d (.int .i64 0), V.d (.int .i64 0), V.d (.int .i64 0), V.cap0, V.cap0, V.cap0] [(1, 3, (s 25)), (4, 3, (s 27)), (7, 1, (s 29)), (8, 1, (s 31)), (9, 1, (s 33)), (10, 1, (s 35)), (11, 1, (s 37)), (12, 1, (s 39)), (13, 1, (s 41)), (14, 1, (s 43)), (15, 1, x2)]).map V.agg) (fun x3 =>
demand (faddrV 5 (s 4)) (fun x4 =>
storeK x4 (cellsV x3) 16 o (fun m5 ob6 =>
K (St.mk (upd (upd (upd (upd s 44 x1) 45 x2) 46 x3) 47 x4) (upd o m5 (some ob6))))))))) := rfl

theorem g_law17_Ref_c0_sh {C : Ctx} {I : Nat → Prop} {s : Nat → V} {o : Nat → Option Ob} {Q : Ex → St → Prop} : wpB C I (.region [1, 2, 4, 5, 49, 50, 51] (some [1, 2, 4, 58, 74]) none
   [⟨some 55, .mv (.t 5), [], [], none, none⟩,
    ⟨some 56, .load (some 3) (.t 7), [], [], none, none⟩,
    ⟨some 57, .bsl none 3 [] 1 [(0, (.t 56))], [], [], none, none⟩,
    ⟨some 58, .app (some 58) 3 40 (.t 55) (.t 57), [], [], none, none⟩,
    ⟨some 5, .mv (.t 58), [], [], none, none⟩]) (St.mk s o) Q =
 (demand (loadV o (some 3) (s 7)) (fun x1 =>
lstK (partsN 3 [x1]) (fun es2 =>
lstK (readD o (V.d (D.sl es2))) (fun ys3 => (∀ e ∈ ys3, e.length = 3) ∧ appK (s 5)
 (ys3.length * 40 ≤ 140737488355328 ∧ ys3.length ≤ 140737488355328 ∧ ¬ I 58 ∧ Fresh (St.mk (upd (upd (upd s 55 (s 5)) 56 x1) 57 (V.d (D.sl es2))) o) 58 (some 58) ∧
Q .normal (St.mk (look [(1, (s 1)), (2, (s 2)), (4, (s 4)), (5, (V.own 58)), (49, (s 49)), (50, (s 50)), (51, (s 51))]) (looko ([1, 2, 4, 58, 74].map fun n => (n, (upd o 58 (some (Ob.row 3 ys3))) n)))))
 (fun m4 => ¬ I m4 ∧ rowK (o m4) (fun z5 es6 => z5 = 3 ∧ (es6.length + ys3.length) * 40 ≤ 140737488355328 ∧ es6.length + ys3.length ≤ 140737488355328 ∧
Q .normal (St.mk (look [(1, ((fun t => scrubV m4 (s t)) 1)), (2, ((fun t => scrubV m4 (s t)) 2)), (4, ((fun t => scrubV m4 (s t)) 4)), (5, (V.own m4)), (49, ((fun t => scrubV m4 (s t)) 49)), (50, ((fun t => scrubV m4 (s t)) 50)), (51, ((fun t => scrubV m4 (s t)) 51))]) (looko ([1, 2, 4, 58, 74].map fun n => (n, (upd (fun n => (o n).map (Ob.scrub m4)) m4 (some (Ob.row 3 (es6 ++ ys3)))) n)))))))))) := rfl

theorem g_law17_Ref_c1_sh {C : Ctx} {I : Nat → Prop} {s : Nat → V} {o : Nat → Option Ob} {Q : Ex → St → Prop} : wpB C I (.region [1, 2, 4, 5, 49, 50, 51] (some [1, 2, 4, 58, 74]) none
   [⟨some 59, .bin .add (.t 51) (.c (.d (.int .i64 1))), [], [], none, none⟩,
    ⟨some 51, .mv (.t 59), [], [], none, none⟩]) (St.mk s o) Q =
 (demand (binV BinOp.add (s 51) (V.d (.int .i64 1))) (fun x1 =>
Q .normal (St.mk (look [(1, (s 1)), (2, (s 2)), (4, (s 4)), (5, (s 5)), (49, (s 49)), (50, (s 50)), (51, x1)]) (looko ([1, 2, 4, 58, 74].map fun n => (n, o n)))))) := rfl

theorem g_law17_Ref_l0_sh {R_l0 : ACode} {R_c0 : ACode} {R_c1 : ACode} {C : Ctx} {I : Nat → Prop} {s : Nat → V} {o : Nat → Option Ob} {Q : Ex → St → Prop} (hL : R_l0 = .loop [1, 2, 4, 5, 49, 50, 51] (some [1, 2, 4, 58, 74]) (.seq (.region [1, 2, 4, 5, 49, 50, 51, 52] (some [1, 2, 4, 58, 74]) none
     [⟨some 52, .bin .lss (.t 51) (.t 50), [], [], none, none⟩])
  (.seq (.cond (.t 52) (.skip)
    (.exit 0))
   (.seq (.block 1 [1, 2, 4, 5, 49, 50, 51] (some [1, 2, 4, 58, 74]) (.seq (.region [1, 2, 4, 5, 7, 49, 50, 51] (some [1, 2, 4, 7, 58, 74]) none
         [⟨some 53, .iaddr 3 (.t 49) (.t 51), [], [], none, none⟩,
          ⟨some 54, .load (some 3) (.t 53), [], [], none, none⟩,
          ⟨some 7, .alloc 7 [.d (.str []), .d (.str []), .d (.int .i64 0)], [], [], none, none⟩,
          ⟨none, .store 3 (.t 7) (.t 54), [], [], none, none⟩])
      (R_c0)))
    (R_c1)))))
 (h : demand (binV BinOp.lss (s 51) (s 50)) (fun x1 =>
condK x1
 (demand (iaddrV (looko ([1, 2, 4, 58, 74].map fun n => (n, o n))) 3 (s 49) (s 51)) (fun x2 =>
demand (loadV (looko ([1, 2, 4, 58, 74].map fun n => (n, o n))) (some 3) x2) (fun x3 =>
(¬ I 7 ∧ Fresh (St.mk (upd (upd (look [(1, (s 1)), (2, (s 2)), (4, (s 4)), (5, (s 5)), (49, (s 49)), (50, (s 50)), (51, (s 51)), (52, x1)]) 53 x2) 54 x3) (looko ([1, 2, 4, 58, 74].map fun n => (n, o n)))) 7 (some 7) ∧ V.refsL 7 [V.d (.str []), V.d (.str []), V.d (.int .i64 0)] = false ∧
storeK (V.ptr 7 0) (cellsV x3) 3 (upd (looko ([1, 2, 4, 58, 74].map fun n => (n, o n))) 7 (some (Ob.box [V.d (.str []), V.d (.str []), V.d (.int .i64 0)]))) (fun m4 ob5 =>
wpB C I R_c0 (St.mk (look [(1, (s 1)), (2, (s 2)), (4, (s 4)), (5, (s 5)), (7, (V.ptr 7 0)), (49, (s 49)), (50, (s 50)), (51, (s 51))]) (looko ([1, 2, 4, 7, 58, 74].map fun n => (n, (upd (upd (looko ([1, 2, 4, 58, 74].map fun n => (n, o n))) 7 (some (Ob.box [V.d (.str []), V.d (.str []), V.d (.int .i64 0)]))) m4 (some ob5)) n)))) (blockK 1 [1, 2, 4, 5, 49, 50, 51] (some [1, 2, 4, 58, 74]) (seqK (fun st => wpB C I R_c1 st (seqK (fun s => wpB C I R_l0 s Q) Q)) (seqK (fun s => wpB C I R_l0 s Q) Q))))))))
 (Q (.exit 0) (St.mk (look [(1, (s 1)), (2, (s 2)), (4, (s 4)), (5, (s 5)), (49, (s 49)), (50, (s 50)), (51, (s 51)), (52, x1)]) (looko ([1, 2, 4, 58, 74].map fun n => (n, o n))))))) : wpB C I R_l0 (St.mk s o) Q := w_loopC hL h

theorem g_law17_Ref_c2_sh {R_l0 : ACode} {C : Ctx} {I : Nat → Prop} {s : Nat → V} {o : Nat → Option Ob} {Q : Ex → St → Prop} : wpB C I (.block 0 [1, 2, 4, 5] (some [1, 2, 4, 58, 74]) (R_l0)) (St.mk s o) Q =
 (wpB C I R_l0 (St.mk s o) (blockK 0 [1, 2, 4, 5] (some [1, 2, 4, 58, 74]) Q)) := rfl

theorem g_law17_Ref_c3_sh {C : Ctx} {I : Nat → Prop} {s : Nat → V} {o : Nat → Option Ob} {Q : Ex → St → Prop} : wpB C I (.region [2, 4, 5, 8, 61, 62, 63] (some [2, 4, 58, 74]) none
   [⟨some 67, .mv (.t 8), [], [], none, none⟩,
    ⟨some 68, .faddr 0 (.t 10), [], [], none, none⟩,
    ⟨some 69, .load none (.t 68), [], [], none, none⟩,
    ⟨some 70, .faddr 1 (.t 10), [], [], none, none⟩,
    ⟨some 71, .load (some 3) (.t 70), [], [], none, none⟩,
    ⟨some 72, .build [.d (.int .i64 0), .d (.int .i64 0), .d (.int .i64 0), .d (.int .i64 0)] [(0, 1, (.t 69)), (1, 3, (.t 71))], [], [], none, none⟩,
    ⟨some 73, .bsl none 4 [] 1 [(0, (.t 72))], [], [], none, none⟩,
    ⟨some 74, .app (some 74) 4 32 (.t 67) (.t 73), [], [], none, none⟩,
    ⟨some 8, .mv (.t 74), [], [], none, none⟩]) (St.mk s o) Q =
 (demand (faddrV 0 (s 10)) (fun x1 =>
demand (loadV o none x1) (fun x2 =>
demand (faddrV 1 (s 10)) (fun x3 =>
demand (loadV o (some 3) x3) (fun x4 =>
demand ((buildN [V.d (.int .i64 0), V.d (.int .i64 0), V.d (.int .i64 0), V.d (.int .i64 0)] [(0, 1, x2), (1, 3, x4)]).map V.agg) (fun x5 =>
lstK (partsN 4 [x5]) (fun es6 =>
lstK (readD o (V.d (D.sl es6))) (fun ys7 => (∀ e ∈ ys7, e.length = 4) ∧ appK (s 8)
 (ys7.length * 32 ≤ 140737488355328 ∧ ys7.length ≤ 140737488355328 ∧ ¬ I 74 ∧ Fresh (St.mk (upd (upd (upd (upd (upd (upd (upd s 67 (s 8)) 68 x1) 69 x2) 70 x3) 71 x4) 72 x5) 73 (V.d (D.sl es6))) o) 74 (some 74) ∧
Q .normal (St.mk (look [(2, (s 2)), (4, (s 4)), (5, (s 5)), (8, (V.own 74)), (61, (s 61)), (62, (s 62)), (63, (s 63))]) (looko ([2, 4, 58, 74].map fun n => (n, (upd o 74 (some (Ob.row 4 ys7))) n)))))
 (fun m8 => ¬ I m8 ∧ rowK (o m8) (fun z9 es10 => z9 = 4 ∧ (es10.length + ys7.length) * 32 ≤ 140737488355328 ∧ es10.length + ys7.length ≤ 140737488355328 ∧
Q .normal (St.mk (look [(2, ((fun t => scrubV m8 (s t)) 2)), (4, ((fun t => scrubV m8 (s t)) 4)), (5, ((fun t => scrubV m8 (s t)) 5)), (8, (V.own m8)), (61, ((fun t => scrubV m8 (s t)) 61)), (62, ((fun t => scrubV m8 (s t)) 62)), (63, ((fun t => scrubV m8 (s t)) 63))]) (looko ([2, 4, 58, 74].map fun n => (n, (upd (fun n => (o n).map (Ob.scrub m8)) m8 (some (Ob.row 4 (es10 ++ ys7)))) n)))))))))))))) := rfl

theorem g_law17_Ref_c4_sh {C : Ctx} {I : Nat → Prop} {s : Nat → V} {o : Nat → Option Ob} {Q : Ex → St → Prop} : wpB C I (.region [2, 4, 5, 8, 61, 62, 63] (some [2, 4, 58, 74]) none
   [⟨some 75, .bin .add (.t 63) (.c (.d (.int .i64 1))), [], [], none, none⟩,
    ⟨some 63, .mv (.t 75), [], [], none, none⟩]) (St.mk s o) Q =
 (demand (binV BinOp.add (s 63) (V.d (.int .i64 1))) (fun x1 =>
Q .normal (St.mk (look [(2, (s 2)), (4, (s 4)), (5, (s 5)), (8, (s 8)), (61, (s 61)), (62, (s 62)), (63, x1)]) (looko ([2, 4, 58, 74].map fun n => (n, o n)))))) := rfl

theorem g_law17_Ref_l1_sh {R_l1 : ACode} {R_c3 : ACode} {R_c4 : ACode} {C : Ctx} {I : Nat → Prop} {s : Nat → V} {o : Nat → Option Ob} {Q : Ex → St → Prop} (hL : R_l1 = .loop [2, 4, 5, 8, 61, 62, 63] (some [2, 4, 58, 74]) (.seq (.region [2, 4, 5, 8, 61, 62, 63, 64] (some [2, 4, 58, 74]) none
     [⟨some 64, .bin .lss (.t 63) (.t 62), [], [], none, none⟩])
  (.seq (.cond (.t 64) (.skip)
    (.exit 2))
   (.seq (.block 3 [2, 4, 5, 8, 61, 62, 63] (some [2, 4, 58, 74]) (.seq (.region [2, 4, 5, 8, 10, 61, 62, 63] (some [2, 4, 10, 58, 74]) none
         [⟨some 65, .iaddr 4 (.t 61) (.t 63), [], [], none, none⟩,
          ⟨some 66, .load (some 4) (.t 65), [], [], none, none⟩,
          ⟨some 10, .alloc 10 [.d (.int .i64 0), .d (.int .i64 0), .d (.int .i64 0), .d (.int .i64 0)], [], [], none, none⟩,
          ⟨none, .store 4 (.t 10) (.t 66), [], [], none, none⟩])
      (R_c3)))
    (R_c4)))))
 (h : demand (binV BinOp.lss (s 63) (s 62)) (fun x1 =>
condK x1
 (demand (iaddrV (looko ([2, 4, 58, 74].map fun n => (n, o n))) 4 (s 61) (s 63)) (fun x2 =>
demand (loadV (looko ([2, 4, 58, 74].map fun n => (n, o n))) (some 4) x2) (fun x3 =>
(¬ I 10 ∧ Fresh (St.mk (upd (upd (look [(2, (s 2)), (4, (s 4)), (5, (s 5)), (8, (s 8)), (61, (s 61)), (62, (s 62)), (63, (s 63)), (64, x1)]) 65 x2) 66 x3) (looko ([2, 4, 58, 74].map fun n => (n, o n)))) 10 (some 10) ∧ V.refsL 10 [V.d (.int .i64 0), V.d (.int .i64 0), V.d (.int .i64 0), V.d (.int .i64 0)] = false ∧
storeK (V.ptr 10 0) (cellsV x3) 4 (upd (looko ([2, 4, 58, 74].map fun n => (n, o n))) 10 (some (Ob.box [V.d (.int .i64 0), V.d (.int .i64 0), V.d (.int .i64 0), V.d (.int .i64 0)]))) (fun m4 ob5 =>
wpB C I R_c3 (St.mk (look [(2, (s 2)), (4, (s 4)), (5, (s 5)), (8, (s 8)), (10, (V.ptr 10 0)), (61, (s 61)), (62, (s 62)), (63, (s 63))]) (looko ([2, 4, 10, 58, 74].map fun n => (n, (upd (upd (looko ([2, 4, 58, 74].map fun n => (n, o n))) 10 (some (Ob.box [V.d (.int .i64 0), V.d (.int .i64 0), V.d (.int .i64 0), V.d (.int .i64 0)]))) m4 (some ob5)) n)))) (blockK 3 [2, 4, 5, 8, 61, 62, 63] (some [2, 4, 58, 74]) (seqK (fun st => wpB C I R_c4 st (seqK (fun s => wpB C I R_l1 s Q) Q)) (seqK (fun s => wpB C I R_l1 s Q) Q))))))))
 (Q (.exit 2) (St.mk (look [(2, (s 2)), (4, (s 4)), (5, (s 5)), (8, (s 8)), (61, (s 61)), (62, (s 62)), (63, (s 63)), (64, x1)]) (looko ([2, 4, 58, 74].map fun n => (n, o n))))))) : wpB C I R_l1 (St.mk s o) Q := w_loopC hL h

theorem g_law17_Ref_c5_sh {R_l1 : ACode} {C : Ctx} {I : Nat → Prop} {s : Nat → V} {o : Nat → Option Ob} {Q : Ex → St → Prop} : wpB C I (.block 2 [2, 4, 5, 8] (some [2, 4, 58, 74]) (R_l1)) (St.mk s o) Q =
 (wpB C I R_l1 (St.mk s o) (blockK 2 [2, 4, 5, 8] (some [2, 4, 58, 74]) Q)) := rfl

theorem g_law17_Ref_c6_sh {C : Ctx} {I : Nat → Prop} {s : Nat → V} {o : Nat → Option Ob} {Q : Ex → St → Prop} : wpB C I (.seq (.region [2] (some [2, 58, 74]) none
    [⟨some 81, .load (some 22) (.t 4), [], [], none, none⟩,
     ⟨none, .store 22 (.t 2) (.t 81), [], [], none, none⟩])
 (.ret)) (St.mk s o) Q =
 (demand (loadV o (some 22) (s 4)) (fun x1 =>
storeK (s 2) (cellsV x1) 22 o (fun m2 ob3 =>
Q .ret (St.mk (look [(2, (s 2))]) (looko ([2, 58, 74].map fun n => (n, (upd o m2 (some ob3)) n))))))) := rfl

theorem g_law17_Ref_c7_sh {R_c6 : ACode} {C : Ctx} {I : Nat → Prop} {s : Nat → V} {o : Nat → Option Ob} {Q : Ex → St → Prop} : wpB C I (.seq (.region [2, 4] (some [2, 4, 58, 74]) none
    [⟨some 76, .mv (.t 5), [], [], none, none⟩,
     ⟨some 77, .mv (.t 8), [], [], none, none⟩,
     ⟨some 78, .faddr 5 (.t 4), [], [], none, none⟩,
     ⟨some 79, .faddr 0 (.t 78), [], [], none, none⟩,
     ⟨none, .store 1 (.t 79) (.t 76), [], [], none, none⟩,
     ⟨some 80, .faddr 21 (.t 4), [], [], none, none⟩,
     ⟨none, .store 1 (.t 80) (.t 77), [], [], none, none⟩])
 (R_c6)) (St.mk s o) Q =
 (demand (faddrV 5 (s 4)) (fun x1 =>
demand (faddrV 0 x1) (fun x2 =>
storeK x2 (cellsV (s 5)) 1 o (fun m3 ob4 =>
demand (faddrV 21 (s 4)) (fun x5 =>
storeK x5 (cellsV (s 8)) 1 (upd o m3 (some ob4)) (fun m6 ob7 =>
wpB C I R_c6 (St.mk (look [(2, (s 2)), (4, (s 4))]) (looko ([2, 4, 58, 74].map fun n => (n, (upd (upd o m3 (some ob4)) m6 (some ob7)) n)))) Q)))))) := rfl

theorem g_law17_Ref_c8_sh {R_c5 : ACode} {R_c7 : ACode} {C : Ctx} {I : Nat → Prop} {s : Nat → V} {o : Nat → Option Ob} {Q : Ex → St → Prop} : wpB C I (.seq (.region [1, 2, 4, 5, 8] (some [1, 2, 4, 58, 74]) none
    [⟨some 8, .mv (.c (.cap0)), [], [], none, none⟩])
 (.seq (.seq (.region [2, 4, 5, 8, 61, 62, 63] (some [2, 4, 58, 74]) none
      [⟨some 60, .faddr 21 (.t 1), [], [], none, none⟩,
       ⟨some 61, .load none (.t 60), [], [], none, none⟩,
       ⟨some 62, .len (.t 61), [], [], none, none⟩,
       ⟨some 63, .mv (.c (.d (.int .i64 0))), [], [], none, none⟩])
   (R_c5))
  (R_c7))) (St.mk s o) Q =
 (demand (faddrV 21 (s 1)) (fun x1 =>
demand (loadV (looko ([1, 2, 4, 58, 74].map fun n => (n, o n))) none x1) (fun x2 =>
demand (lenV (looko ([1, 2, 4, 58, 74].map fun n => (n, o n))) x2) (fun x3 =>
wpB C I R_c5 (St.mk (look [(2, (s 2)), (4, (s 4)), (5, (s 5)), (8, (V.cap0)), (61, x2), (62, x3), (63, (V.d (.int .i64 0)))]) (looko ([2, 4, 58, 74].map fun n => (n, o n)))) (seqK (fun st => wpB C I R_c7 st Q) Q))))) := rfl

theorem g_law17_Ref_c9_sh {R_c2 : ACode} {R_c8 : ACode} {C : Ctx} {I : Nat → Prop} {s : Nat → V} {o : Nat → Option Ob} {Q : Ex → St → Prop} : wpB C I (.seq (.region [1, 2, 3, 4, 5] (some [1, 2, 3, 4, 58, 74]) none
    [⟨some 5, .mv (.c (.cap0)), [], [], none, none⟩])
 (.seq (.seq (.region [1, 2, 4, 5, 49, 50, 51] (some [1, 2, 4, 58, 74]) none
      [⟨some 48, .faddr 0 (.t 3), [], [], none, none⟩,
       ⟨some 49, .load none (.t 48), [], [], none, none⟩,
       ⟨some 50, .len (.t 49), [], [], none, none⟩,
       ⟨some 51, .mv (.c (.d (.int .i64 0))), [], [], none, none⟩])
   (R_c2))
  (R_c8))) (St.mk s o) Q =
 (demand (faddrV 0 (s 3)) (fun x1 =>
demand (loadV (looko ([1, 2, 3, 4, 58, 74].map fun n => (n, o n))) none x1) (fun x2 =>
demand (lenV (looko ([1, 2, 3, 4, 58, 74].map fun n => (n, o n))) x2) (fun x3 =>
wpB C I R_c2 (St.mk (look [(1, (s 1)), (2, (s 2)), (4, (s 4)), (5, (V.cap0)), (49, x2), (50, x3), (51, (V.d (.int .i64 0)))]) (looko ([1, 2, 4, 58, 74].map fun n => (n, o n)))) (seqK (fun st => wpB C I R_c8 st Q) Q))))) := rfl

theorem g_law17_Ref_c10_sh {R_o0 : List AOper} {R_c9 : ACode} {C : Ctx} {I : Nat → Prop} {s : Nat → V} {o : Nat → Option Ob} {Q : Ex → St → Prop} : wpB C I (.seq (.region [1, 2, 3, 4] (some [1, 2, 3, 4, 58, 74]) none
    (⟨some 24, .faddr 1 (.t 3), [], [], none, none⟩ ::
     ⟨some 25, .load (some 3) (.t 24), [], [], none, none⟩ ::
     ⟨some 26, .faddr 4 (.t 3), [], [], none, none⟩ ::
     ⟨some 27, .load (some 3) (.t 26), [], [], none, none⟩ ::
     ⟨some 28, .faddr 7 (.t 3), [], [], none, none⟩ ::
     ⟨some 29, .load none (.t 28), [], [], none, none⟩ ::
     ⟨some 30, .faddr 8 (.t 3), [], [], none, none⟩ ::
     ⟨some 31, .load none (.t 30), [], [], none, none⟩ ::
     ⟨some 32, .faddr 9 (.t 3), [], [], none, none⟩ ::
     ⟨some 33, .load none (.t 32), [], [], none, none⟩ ::
     ⟨some 34, .faddr 10 (.t 3), [], [], none, none⟩ ::
     ⟨some 35, .load none (.t 34), [], [], none, none⟩ ::
     ⟨some 36, .faddr 11 (.t 3), [], [], none, none⟩ ::
     ⟨some 37, .load none (.t 36), [], [], none, none⟩ ::
     ⟨some 38, .faddr 12 (.t 3), [], [], none, none⟩ ::
     ⟨some 39, .load none (.t 38), [], [], none, none⟩ ::
     ⟨some 40, .faddr 13 (.t 3), [], [], none, none⟩ ::
     ⟨some 41, .load none (.t 40), [], [], none, none⟩ ::
     ⟨some 42, .faddr 14 (.t 3), [], [], none, none⟩ ::
     ⟨some 43, .load none (.t 42), [], [], none, (some ([1, 2, 3, 4, 25, 27, 29, 31, 33, 35, 37, 39, 41, 43], (some [1, 2, 3, 4, 58, 74])))⟩ ::
     R_o0))
 (R_c9)) (St.mk s o) Q =
 (demand (faddrV 1 (s 3)) (fun x1 =>
demand (loadV o (some 3) x1) (fun x2 =>
demand (faddrV 4 (s 3)) (fun x3 =>
demand (loadV o (some 3) x3) (fun x4 =>
demand (faddrV 7 (s 3)) (fun x5 =>
demand (loadV o none x5) (fun x6 =>
demand (faddrV 8 (s 3)) (fun x7 =>
demand (loadV o none x7) (fun x8 =>
demand (faddrV 9 (s 3)) (fun x9 =>
demand (loadV o none x9) (fun x10 =>
demand (faddrV 10 (s 3)) (fun x11 =>
demand (loadV o none x11) (fun x12 =>
demand (faddrV 11 (s 3)) (fun x13 =>
demand (loadV o none x13) (fun x14 =>
demand (faddrV 12 (s 3)) (fun x15 =>
demand (loadV o none x15) (fun x16 =>
demand (faddrV 13 (s 3)) (fun x17 =>
demand (loadV o none x17) (fun x18 =>
demand (faddrV 14 (s 3)) (fun x19 =>
demand (loadV o none x19) (fun x20 =>
opsB C I R_o0 (St.mk (look [(1, (s 1)), (2, (s 2)), (3, (s 3)), (4, (s 4)), (25, x2), (27, x4), (29, x6), (31, x8), (33, x10), (35, x12), (37, x14), (39, x16), (41, x18), (43, x20)]) (looko ([1, 2, 3, 4, 58, 74].map fun n => (n, o n)))) (fun st => (seqK (fun st => wpB C I R_c9 st Q) Q) .normal (St.trim st [1, 2, 3, 4] (some [1, 2, 3, 4, 58, 74])))))))))))))))))))))))) := rfl

theorem g_law17_Ref_c11_sh {R_c10 : ACode} {C : Ctx} {I : Nat → Prop} {s : Nat → V} {o : Nat → Option Ob} {Q : Ex → St → Prop} : wpB C I (.seq (.region [1, 2, 3, 4] (some [1, 2, 3, 4, 58, 74]) none
    [⟨some 13, .faddr 0 (.t 1), [], [], none, none⟩,
     ⟨some 14, .load none (.t 13), [], [], none, none⟩,
     ⟨some 15, .faddr 1 (.t 1), [], [], none, none⟩,
     ⟨some 16, .load none (.t 15), [], [], none, none⟩,
     ⟨some 17, .faddr 2 (.t 1), [], [], none, none⟩,
     ⟨some 18, .load none (.t 17), [], [], none, none⟩,
     ⟨some 19, .faddr 3 (.t 1), [], [], none, none⟩,
     ⟨some 20, .load none (.t 19), [], [], none, none⟩,
     ⟨some 21, .faddr 4 (.t 1), [], [], none, none⟩,
     ⟨some 22, .load none (.t 21), [], [], none, none⟩,
     ⟨some 23, .build [.d (.int .i64 0), .d (.int .i64 0), .d (.int .i64 0), .d (.int .i64 0), .d (.int .i64 0), .cap0, .d (.int .i64 0), .d (.int .i64 0), .d (.int .i64 0), .d (.int .i64 0), .d (.int .i64 0), .d (.int .i64 0), .d (.int .i64 0), .d (.int .i64 0), .d (.int .i64 0), .d (.int .i64 0), .d (.int .i64 0), .d (.int .i64 0), .cap0, .cap0, .cap0, .cap0] [(0, 1, (.t 14)), (1, 1, (.t 16)), (2, 1, (.t 18)), (3, 1, (.t 20)), (4, 1, (.t 22))], [], [], none, none⟩,
     ⟨some 4, .alloc 4 [.d (.int .i64 0), .d (.int .i64 0), .d (.int .i64 0), .d (.int .i64 0), .d (.int .i64 0), .cap0, .d (.int .i64 0), .d (.int .i64 0), .d (.int .i64 0), .d (.int .i64 0), .d (.int .i64 0), .d (.int .i64 0), .d (.int .i64 0), .d (.int .i64 0), .d (.int .i64 0), .d (.int .i64 0), .d (.int .i64 0), .d (.int .i64 0), .cap0, .cap0, .cap0, .cap0], [], [], none, none⟩,
     ⟨none, .store 22 (.t 4) (.t 23), [], [], none, none⟩])
 (R_c10)) (St.mk s o) Q =
 (demand (faddrV 0 (s 1)) (fun x1 =>
demand (loadV o none x1) (fun x2 =>
demand (faddrV 1 (s 1)) (fun x3 =>
demand (loadV o none x3) (fun x4 =>
demand (faddrV 2 (s 1)) (fun x5 =>
demand (loadV o none x5) (fun x6 =>
demand (faddrV 3 (s 1)) (fun x7 =>
demand (loadV o none x7) (fun x8 =>
demand (faddrV 4 (s 1)) (fun x9 =>
demand (loadV o none x9) (fun x10 =>
demand ((buildN [V.d (.int .i64 0), V.d (.int .i64 0), V.d (.int .i64 0), V.d (.int .i64 0), V.d (.int .i64 0), V.cap0, V.d (.int .i64 0), V.d (.int .i64 0), V.d (.int .i64 0), V.d (.int .i64 0), V.d (.int .i64 0), V.d (.int .i64 0), V.d (.int .i64 0), V.d (.int .i64 0), V.d (.int .i64 0), V.d (.int .i64 0), V.d (.int .i64 0), V.d (.int .i64 0), V.cap0, V.cap0, V.cap0, V.cap0] [(0, 1, x2), (1, 1, x4), (2, 1, x6), (3, 1, x8), (4, 1, x10)]).map V.agg) (fun x11 =>
(¬ I 4 ∧ Fresh (St.mk (upd (upd (upd (upd (upd (upd (upd (upd (upd (upd (upd s 13 x1) 14 x2) 15 x3) 16 x4) 17 x5) 18 x6) 19 x7) 20 x8) 21 x9) 22 x10) 23 x11) o) 4 (some 4) ∧ V.refsL 4 [V.d (.int .i64 0), V.d (.int .i64 0), V.d (.int .i64 0), V.d (.int .i64 0), V.d (.int .i64 0), V.cap0, V.d (.int .i64 0), V.d (.int .i64 0), V.d (.int .i64 0), V.d (.int .i64 0), V.d (.int .i64 0), V.d (.int .i64 0), V.d (.int .i64 0), V.d (.int .i64 0), V.d (.int .i64 0), V.d (.int .i64 0), V.d (.int .i64 0), V.d (.int .i64 0), V.cap0, V.cap0, V.cap0, V.cap0] = false ∧
storeK (V.ptr 4 0) (cellsV x11) 22 (upd o 4 (some (Ob.box [V.d (.int .i64 0), V.d (.int .i64 0), V.d (.int .i64 0), V.d (.int .i64 0), V.d (.int .i64 0), V.cap0, V.d (.int .i64 0), V.d (.int .i64 0), V.d (.int .i64 0), V.d (.int .i64 0), V.d (.int .i64 0), V.d (.int .i64 0), V.d (.int .i64 0), V.d (.int .i64 0), V.d (.int .i64 0), V.d (.int .i64 0), V.d (.int .i64 0), V.d (.int .i64 0), V.cap0, V.cap0, V.cap0, V.cap0]))) (fun m12 ob13 =>
wpB C I R_c10 (St.mk (look [(1, (s 1)), (2, (s 2)), (3, (s 3)), (4, (V.ptr 4 0))]) (looko ([1, 2, 3, 4, 58, 74].map fun n => (n, (upd (upd o 4 (some (Ob.box [V.d (.int .i64 0), V.d (.int .i64 0), V.d (.int .i64 0), V.d (.int .i64 0), V.d (.int .i64 0), V.cap0, V.d (.int .i64 0), V.d (.int .i64 0), V.d (.int .i64 0), V.d (.int .i64 0), V.d (.int .i64 0), V.d (.int .i64 0), V.d (.int .i64 0), V.d (.int .i64 0), V.d (.int .i64 0), V.d (.int .i64 0), V.d (.int .i64 0), V.d (.int .i64 0), V.cap0, V.cap0, V.cap0, V.cap0]))) m12 (some ob13)) n)))) Q)))))))))))))) := rfl

theorem g_law17_Ref_code_sh {R_c11 : ACode} {C : Ctx} {I : Nat → Prop} {s : Nat → V} {o : Nat → Option Ob} {Q : Ex → St → Prop} : wpB C I (.seq (.region [1, 2] (some [1, 2, 58, 74]) none
    [⟨some 1, .box 1 22 (.t 0), [], [], none, none⟩,
     ⟨some 2, .alloc 2 [.d (.int .i64 0), .d (.int .i64 0), .d (.int .i64 0), .d (.int .i64 0), .d (.int .i64 0), .cap0, .d (.int .i64 0), .d (.int .i64 0), .d (.int .i64 0), .d (.int .i64 0), .d (.int .i64 0), .d (.int .i64 0), .d (.int .i64 0), .d (.int .i64 0), .d (.int .i64 0), .d (.int .i64 0), .d (.int .i64 0), .d (.int .i64 0), .cap0, .cap0, .cap0, .cap0], [], [], none, none⟩])
 (.seq (.region [1, 2, 3] (some [1, 2, 3, 58, 74]) none
     [⟨some 11, .faddr 5 (.t 1), [], [], none, none⟩,
      ⟨some 12, .load (some 16) (.t 11), [], [], none, none⟩,
      ⟨some 3, .alloc 3 [.cap0, .d (.int .i64 0), .d (.int .i64 0), .d (.int .i64 0), .d (.int .i64 0), .d (.int .i64 0), .d (.int .i64 0), .d (.int .i64 0), .d (.int .i64 0), .d (.int .i64 0), .d (.int .i64 0), .d (.int .i64 0), .d (.int .i64 0), .cap0, .cap0, .cap0], [], [], none, none⟩,
      ⟨none, .store 16 (.t 3) (.t 12), [], [], none, none⟩])
  (R_c11))) (St.mk s o) Q =
 (lstK (cellsV (s 0)) (fun c1 => c1.length = 22 ∧ ¬ I 1 ∧ Fresh (St.mk s o) 1 (some 1) ∧ V.refsL 1 c1 = false ∧
(¬ I 2 ∧ Fresh (St.mk (upd s 1 (V.ptr 1 0)) (upd o 1 (some (Ob.box c1)))) 2 (some 2) ∧ V.refsL 2 [V.d (.int .i64 0), V.d (.int .i64 0), V.d (.int .i64 0), V.d (.int .i64 0), V.d (.int .i64 0), V.cap0, V.d (.int .i64 0), V.d (.int .i64 0), V.d (.int .i64 0), V.d (.int .i64 0), V.d (.int .i64 0), V.d (.int .i64 0), V.d (.int .i64 0), V.d (.int .i64 0), V.d (.int .i64 0), V.d (.int .i64 0), V.d (.int .i64 0), V.d (.int .i64 0), V.cap0, V.cap0, V.cap0, V.cap0] = false ∧
demand (faddrV 5 (V.ptr 1 0)) (fun x2 =>
demand (loadV (looko ([1, 2, 58, 74].map fun n => (n, (upd (upd o 1 (some (Ob.box c1))) 2 (some (Ob.box [V.d (.int .i64 0), V.d (.int .i64 0), V.d (.int .i64 0), V.d (.int .i64 0), V.d (.int .i64 0), V.cap0, V.d (.int .i64 0), V.d (.int .i64 0), V.d (.int .i64 0), V.d (.int .i64 0), V.d (.int .i64 0), V.d (.int .i64 0), V.d (.int .i64 0), V.d (.int .i64 0), V.d (.int .i64 0), V.d (.int .i64 0), V.d (.int .i64 0), V.d (.int .i64 0), V.cap0, V.cap0, V.cap0, V.cap0]))) n))) (some 16) x2) (fun x3 =>
(¬ I 3 ∧ Fresh (St.mk (upd (upd (look [(1, (V.ptr 1 0)), (2, (V.ptr 2 0))]) 11 x2) 12 x3) (looko ([1, 2, 58, 74].map fun n => (n, (upd (upd o 1 (some (Ob.box c1))) 2 (some (Ob.box [V.d (.int .i64 0), V.d (.int .i64 0), V.d (.int .i64 0), V.d (.int .i64 0), V.d (.int .i64 0), V.cap0, V.d (.int .i64 0), V.d (.int .i64 0), V.d (.int .i64 0), V.d (.int .i64 0), V.d (.int .i64 0), V.d (.int .i64 0), V.d (.int .i64 0), V.d (.int .i64 0), V.d (.int .i64 0), V.d (.int .i64 0), V.d (.int .i64 0), V.d (.int .i64 0), V.cap0, V.cap0, V.cap0, V.cap0]))) n)))) 3 (some 3) ∧ V.refsL 3 [V.cap0, V.d (.int .i64 0), V.d (.int .i64 0), V.d (.int .i64 0), V.d (.int .i64 0), V.d (.int .i64 0), V.d (.int .i64 0), V.d (.int .i64 0), V.d (.int .i64 0), V.d (.int .i64 0), V.d (.int .i64 0), V.d (.int .i64 0), V.d (.int .i64 0), V.cap0, V.cap0, V.cap0] = false ∧
storeK (V.ptr 3 0) (cellsV x3) 16 (upd (looko ([1, 2, 58, 74].map fun n => (n, (upd (upd o 1 (some (Ob.box c1))) 2 (some (Ob.box [V.d (.int .i64 0), V.d (.int .i64 0), V.d (.int .i64 0), V.d (.int .i64 0), V.d (.int .i64 0), V.cap0, V.d (.int .i64 0), V.d (.int .i64 0), V.d (.int .i64 0), V.d (.int .i64 0), V.d (.int .i64 0), V.d (.int .i64 0), V.d (.int .i64 0), V.d (.int .i64 0), V.d (.int .i64 0), V.d (.int .i64 0), V.d (.int .i64 0), V.d (.int .i64 0), V.cap0, V.cap0, V.cap0, V.cap0]))) n))) 3 (some (Ob.box [V.cap0, V.d (.int .i64 0), V.d (.int .i64 0), V.d (.int .i64 0), V.d (.int .i64 0), V.d (.int .i64 0), V.d (.int .i64 0), V.d (.int .i64 0), V.d (.int .i64 0), V.d (.int .i64 0), V.d (.int .i64 0), V.d (.int .i64 0), V.d (.int .i64 0), V.cap0, V.cap0, V.cap0]))) (fun m4 ob5 =>
wpB C I R_c11 (St.mk (look [(1, (V.ptr 1 0)), (2, (V.ptr 2 0)), (3, (V.ptr 3 0))]) (looko ([1, 2, 3, 58, 74].map fun n => (n, (upd (upd (looko ([1, 2, 58, 74].map fun n => (n, (upd (upd o 1 (some (Ob.box c1))) 2 (some (Ob.box [V.d (.int .i64 0), V.d (.int .i64 0), V.d (.int .i64 0), V.d (.int .i64 0), V.d (.int .i64 0), V.cap0, V.d (.int .i64 0), V.d (.int .i64 0), V.d (.int .i64 0), V.d (.int .i64 0), V.d (.int .i64 0), V.d (.int .i64 0), V.d (.int .i64 0), V.d (.int .i64 0), V.d (.int .i64 0), V.d (.int .i64 0), V.d (.int .i64 0), V.d (.int .i64 0), V.cap0, V.cap0, V.cap0, V.cap0]))) n))) 3 (some (Ob.box [V.cap0, V.d (.int .i64 0), V.d (.int .i64 0), V.d (.int .i64 0), V.d (.int .i64 0), V.d (.int .i64 0), V.d (.int .i64 0), V.d (.int .i64 0), V.d (.int .i64 0), V.d (.int .i64 0), V.d (.int .i64 0), V.d (.int .i64 0), V.d (.int .i64 0), V.cap0, V.cap0, V.cap0]))) m4 (some ob5)) n)))) Q))))))) := rfl

theorem g_book_Year_t2_sh {C : Ctx} {I : Nat → Prop} {s : Nat → V} {o : Nat → Option Ob} {K : St → Prop} : treeB C I g_book_Year.a0 (.one 6 .done) (St.mk s o) K =
 ((([] : List Nat) = [] ∧ (storeK (s 10) (cellsV (s 20)) 5 o (fun m1 ob2 =>
K (St.mk s (upd o m1 (some ob2))))))) := rfl

theorem g_book_Year_t3_sh {R_t2 : Tr} {C : Ctx} {I : Nat → Prop} {s : Nat → V} {o : Nat → Option Ob} {K : St → Prop} : treeB C I g_book_Year.a0 (.one 5 R_t2) (St.mk s o) K =
 ((([] : List Nat) = [] ∧ ((¬ I 10 ∧ Fresh (St.mk s o) 10 (some 10) ∧ V.refsL 10 [V.d (.int .i64 0), V.d (.int .i64 0), V.d (.int .i64 0), V.cap0, V.cap0] = false ∧
treeB C I g_book_Year.a0 R_t2 (St.mk (upd s 10 (V.ptr 10 0)) (upd o 10 (some (Ob.box [V.d (.int .i64 0), V.d (.int .i64 0), V.d (.int .i64 0), V.cap0, V.cap0])))) K)))) := rfl

theorem g_book_Year_t4_sh {R_t2 : Tr} {C : Ctx} {I : Nat → Prop} {s : Nat → V} {o : Nat → Option Ob} {K : St → Prop} : treeB C I g_book_Year.a0 (.one 4 R_t2) (St.mk s o) K =
 ((([] : List Nat) = [] ∧ (demand ((buildN [V.d (.int .i64 0), V.d (.int .i64 0), V.d (.int .i64 0), V.cap0, V.cap0] [(3, 1, (s 17)), (4, 1, (s 19))]).map V.agg) (fun x1 =>
treeB C I g_book_Year.a0 R_t2 (St.mk (upd s 20 x1) o) K)))) := rfl

theorem g_book_Year_t5_sh {R_t4 : Tr} {C : Ctx} {I : Nat → Prop} {s : Nat → V} {o : Nat → Option Ob} {K : St → Prop} : treeB C I g_book_Year.a0 (.one 5 R_t4) (St.mk s o) K =
 ((([] : List Nat) = [] ∧ ((¬ I 10 ∧ Fresh (St.mk s o) 10 (some 10) ∧ V.refsL 10 [V.d (.int .i64 0), V.d (.int .i64 0), V.d (.int .i64 0), V.cap0, V.cap0] = false ∧
treeB C I g_book_Year.a0 R_t4 (St.mk (upd s 10 (V.ptr 10 0)) (upd o 10 (some (Ob.box [V.d (.int .i64 0), V.d (.int .i64 0), V.d (.int .i64 0), V.cap0, V.cap0])))) K)))) := rfl

theorem g_book_Year_t6_sh {R_t3 : Tr} {R_t5 : Tr} {C : Ctx} {I : Nat → Prop} {s : Nat → V} {o : Nat → Option Ob} {K : St → Prop} : treeB C I g_book_Year.a0 (.two 4 R_t3 R_t5) (St.mk s o) K =
 ((([] : List Nat) = [] ∧ (demand ((buildN [V.d (.int .i64 0), V.d (.int .i64 0), V.d (.int .i64 0), V.cap0, V.cap0] [(3, 1, (s 17)), (4, 1, (s 19))]).map V.agg) (fun x1 =>
treeB C I g_book_Year.a0 R_t3 (St.mk (upd s 20 x1) o) K))) ∧ treeB C I g_book_Year.a0 R_t5 (St.mk s o) K) := rfl

theorem g_book_Year_t7_sh {R_t4 : Tr} {C : Ctx} {I : Nat → Prop} {s : Nat → V} {o : Nat → Option Ob} {K : St → Prop} : treeB C I g_book_Year.a0 (.one 3 R_t4) (St.mk s o) K =
 ((([] : List Nat) = [] ∧ (intK (s 18) (fun n1 => 0 ≤ n1 ∧ n1.toNat * 8 ≤ 140737488355328 ∧ n1 ≤ 140737488355328 ∧ ¬ I 19 ∧ Fresh (St.mk s o) 19 (some 19) ∧
treeB C I g_book_Year.a0 R_t4 (St.mk (upd s 19 (V.own 19)) (upd o 19 (some (Ob.row 1 (List.replicate n1.toNat [(.int .i64 0)]))))) K)))) := rfl

theorem g_book_Year_t8_sh {R_t7 : Tr} {C : Ctx} {I : Nat → Prop} {s : Nat → V} {o : Nat → Option Ob} {K : St → Prop} : treeB C I g_book_Year.a0 (.one 5 R_t7) (St.mk s o) K =
 ((([] : List Nat) = [] ∧ ((¬ I 10 ∧ Fresh (St.mk s o) 10 (some 10) ∧ V.refsL 10 [V.d (.int .i64 0), V.d (.int .i64 0), V.d (.int .i64 0), V.cap0, V.cap0] = false ∧
treeB C I g_book_Year.a0 R_t7 (St.mk (upd s 10 (V.ptr 10 0)) (upd o 10 (some (Ob.box [V.d (.int .i64 0), V.d (.int .i64 0), V.d (.int .i64 0), V.cap0, V.cap0])))) K)))) := rfl

theorem g_book_Year_t9_sh {R_t6 : Tr} {R_t8 : Tr} {C : Ctx} {I : Nat → Prop} {s : Nat → V} {o : Nat → Option Ob} {K : St → Prop} : treeB C I g_book_Year.a0 (.two 3 R_t6 R_t8) (St.mk s o) K =
 ((([] : List Nat) = [] ∧ (intK (s 18) (fun n1 => 0 ≤ n1 ∧ n1.toNat * 8 ≤ 140737488355328 ∧ n1 ≤ 140737488355328 ∧ ¬ I 19 ∧ Fresh (St.mk s o) 19 (some 19) ∧
treeB C I g_book_Year.a0 R_t6 (St.mk (upd s 19 (V.own 19)) (upd o 19 (some (Ob.row 1 (List.replicate n1.toNat [(.int .i64 0)]))))) K))) ∧ treeB C I g_book_Year.a0 R_t8 (St.mk s o) K) := rfl

theorem g_book_Year_t10_sh {R_t4 : Tr} {C : Ctx} {I : Nat → Prop} {s : Nat → V} {o : Nat → Option Ob} {K : St → Prop} : treeB C I g_book_Year.a0 (.one 1 R_t4) (St.mk s o) K =
 ((([] : List Nat) = [] ∧ (intK (s 16) (fun n1 => 0 ≤ n1 ∧ n1.toNat * 8 ≤ 140737488355328 ∧ n1 ≤ 140737488355328 ∧ ¬ I 17 ∧ Fresh (St.mk s o) 17 (some 17) ∧
treeB C I g_book_Year.a0 R_t4 (St.mk (upd s 17 (V.own 17)) (upd o 17 (some (Ob.row 1 (List.replicate n1.toNat [(.int .i64 0)]))))) K)))) := rfl

theorem g_book_Year_t11_sh {R_t10 : Tr} {C : Ctx} {I : Nat → Prop} {s : Nat → V} {o : Nat → Option Ob} {K : St → Prop} : treeB C I g_book_Year.a0 (.one 5 R_t10) (St.mk s o) K =
 ((([] : List Nat) = [] ∧ ((¬ I 10 ∧ Fresh (St.mk s o) 10 (some 10) ∧ V.refsL 10 [V.d (.int .i64 0), V.d (.int .i64 0), V.d (.int .i64 0), V.cap0, V.cap0] = false ∧
treeB C I g_book_Year.a0 R_t10 (St.mk (upd s 10 (V.ptr 10 0)) (upd o 10 (some (Ob.box [V.d (.int .i64 0), V.d (.int .i64 0), V.d (.int .i64 0), V.cap0, V.cap0])))) K)))) := rfl

theorem g_book_Year_t12_sh {R_t6 : Tr} {R_t11 : Tr} {C : Ctx} {I : Nat → Prop} {s : Nat → V} {o : Nat → Option Ob} {K : St → Prop} : treeB C I g_book_Year.a0 (.two 1 R_t6 R_t11) (St.mk s o) K =
 ((([] : List Nat) = [] ∧ (intK (s 16) (fun n1 => 0 ≤ n1 ∧ n1.toNat * 8 ≤ 140737488355328 ∧ n1 ≤ 140737488355328 ∧ ¬ I 17 ∧ Fresh (St.mk s o) 17 (some 17) ∧
treeB C I g_book_Year.a0 R_t6 (St.mk (upd s 17 (V.own 17)) (upd o 17 (some (Ob.row 1 (List.replicate n1.toNat [(.int .i64 0)]))))) K))) ∧ treeB C I g_book_Year.a0 R_t11 (St.mk s o) K) := rfl

theorem g_book_Year_t13_sh {R_t10 : Tr} {C : Ctx} {I : Nat → Prop} {s : Nat → V} {o : Nat → Option Ob} {K : St → Prop} : treeB C I g_book_Year.a0 (.one 3 R_t10) (St.mk s o) K =
 ((([] : List Nat) = [] ∧ (intK (s 18) (fun n1 => 0 ≤ n1 ∧ n1.toNat * 8 ≤ 140737488355328 ∧ n1 ≤ 140737488355328 ∧ ¬ I 19 ∧ Fresh (St.mk s o) 19 (some 19) ∧
treeB C I g_book_Year.a0 R_t10 (St.mk (upd s 19 (V.own 19)) (upd o 19 (some (Ob.row 1 (List.replicate n1.toNat [(.int .i64 0)]))))) K)))) := rfl

theorem g_book_Year_t14_sh {R_t7 : Tr} {R_t13 : Tr} {C : Ctx} {I : Nat → Prop} {s : Nat → V} {o : Nat → Option Ob} {K : St → Prop} : treeB C I g_book_Year.a0 (.two 1 R_t7 R_t13) (St.mk s o) K =
 ((([] : List Nat) = [] ∧ (intK (s 16) (fun n1 => 0 ≤ n1 ∧ n1.toNat * 8 ≤ 140737488355328 ∧ n1 ≤ 140737488355328 ∧ ¬ I 17 ∧ Fresh (St.mk s o) 17 (some 17) ∧
treeB C I g_book_Year.a0 R_t7 (St.mk (upd s 17 (V.own 17)) (upd o 17 (some (Ob.row 1 (List.replicate n1.toNat [(.int .i64 0)]))))) K))) ∧ treeB C I g_book_Year.a0 R_t13 (St.mk s o) K) := rfl

theorem g_book_Year_t15_sh {R_t14 : Tr} {C : Ctx} {I : Nat → Prop} {s : Nat → V} {o : Nat → Option Ob} {K : St → Prop} : treeB C I g_book_Year.a0 (.one 5 R_t14) (St.mk s o) K =
 ((([] : List Nat) = [] ∧ ((¬ I 10 ∧ Fresh (St.mk s o) 10 (some 10) ∧ V.refsL 10 [V.d (.int .i64 0), V.d (.int .i64 0), V.d (.int .i64 0), V.cap0, V.cap0] = false ∧
treeB C I g_book_Year.a0 R_t14 (St.mk (upd s 10 (V.ptr 10 0)) (upd o 10 (some (Ob.box [V.d (.int .i64 0), V.d (.int .i64 0), V.d (.int .i64 0), V.cap0, V.cap0])))) K)))) := rfl

theorem g_book_Year_t16_sh {R_t12 : Tr} {R_t15 : Tr} {C : Ctx} {I : Nat → Prop} {s : Nat → V} {o : Nat → Option Ob} {K : St → Prop} : treeB C I g_book_Year.a0 (.two 3 R_t12 R_t15) (St.mk s o) K =
 ((([] : List Nat) = [] ∧ (intK (s 18) (fun n1 => 0 ≤ n1 ∧ n1.toNat * 8 ≤ 140737488355328 ∧ n1 ≤ 140737488355328 ∧ ¬ I 19 ∧ Fresh (St.mk s o) 19 (some 19) ∧
treeB C I g_book_Year.a0 R_t12 (St.mk (upd s 19 (V.own 19)) (upd o 19 (some (Ob.row 1 (List.replicate n1.toNat [(.int .i64 0)]))))) K))) ∧ treeB C I g_book_Year.a0 R_t15 (St.mk s o) K) := rfl

theorem g_book_Year_t17_sh {R_t9 : Tr} {R_t16 : Tr} {C : Ctx} {I : Nat → Prop} {s : Nat → V} {o : Nat → Option Ob} {K : St → Prop} : treeB C I g_book_Year.a0 (.two 1 R_t9 R_t16) (St.mk s o) K =
 ((([] : List Nat) = [] ∧ (intK (s 16) (fun n1 => 0 ≤ n1 ∧ n1.toNat * 8 ≤ 140737488355328 ∧ n1 ≤ 140737488355328 ∧ ¬ I 17 ∧ Fresh (St.mk s o) 17 (some 17) ∧
treeB C I g_book_Year.a0 R_t9 (St.mk (upd s 17 (V.own 17)) (upd o 17 (some (Ob.row 1 (List.replicate n1.toNat [(.int .i64 0)]))))) K))) ∧ treeB C I g_book_Year.a0 R_t16 (St.mk s o) K) := rfl

theorem g_book_Year_i1_sh {R_t17 : Tr} {C : Ctx} {I : Nat → Prop} {s : Nat → V} {o : Nat → Option Ob} {K : St → Prop} : drawB C I g_book_Year.a0 (2 :: []) R_t17 (St.mk s o) K =
 ((s 18) = V.undef ∧ (quietV o ((s 9) :: [(s 9)]) ∧
treeB C I g_book_Year.a0 R_t17 (St.mk (upd s 18 (s 9)) o) K)) := rfl

theorem g_book_Year_c0_sh {C : Ctx} {I : Nat → Prop} {s : Nat → V} {o : Nat → Option Ob} {Q : Ex → St → Prop} : wpB C I (.region [2, 8, 10, 23, 24, 25] (some [8, 10, 17, 19]) none
   [⟨some 67, .faddr 4 (.t 10), [], [], none, none⟩,
    ⟨some 68, .load none (.t 67), [], [], none, none⟩,
    ⟨some 69, .faddr 5 (.t 12), [], [], none, none⟩,
    ⟨some 70, .faddr 14 (.t 69), [], [], none, none⟩,
    ⟨some 71, .load none (.t 70), [], [], none, none⟩,
    ⟨some 72, .call 19 [(.t 68), (.t 71)], [71], [], none, none⟩]) (St.mk s o) Q =
 (demand (faddrV 4 (s 10)) (fun x1 =>
demand (loadV o none x1) (fun x2 =>
demand (faddrV 5 (s 12)) (fun x3 =>
demand (faddrV 14 x3) (fun x4 =>
demand (loadV o none x4) (fun x5 =>
frzK (St.mk (upd (upd (upd (upd (upd s 67 x1) 68 x2) 69 x3) 70 x4) 71 x5) o) [71] (fun st6 =>
callK C I (St.mk st6.s st6.o) (some 72) 19 [(st6.s 68), (st6.s 71)] (fun r7 or7 =>
Q .normal (St.mk (look [(2, (st6.s 2)), (8, (st6.s 8)), (10, (st6.s 10)), (23, (st6.s 23)), (24, (st6.s 24)), (25, (st6.s 25))]) (looko ([8, 10, 17, 19].map fun n => (n, or7 n)))))))))))) := rfl

theorem g_book_Year_c1_sh {R_c0 : ACode} {C : Ctx} {I : Nat → Prop} {s : Nat → V} {o : Nat → Option Ob} {Q : Ex → St → Prop} : wpB C I (.seq (.region [2, 8, 10, 12, 23, 24, 25] (some [8, 10, 12, 17, 19]) none
    [⟨some 61, .faddr 3 (.t 10), [], [], none, none⟩,
     ⟨some 62, .load none (.t 61), [], [], none, none⟩,
     ⟨some 63, .faddr 5 (.t 12), [], [], none, none⟩,
     ⟨some 64, .faddr 13 (.t 63), [], [], none, none⟩,
     ⟨some 65, .load none (.t 64), [], [], none, none⟩,
     ⟨some 66, .call 19 [(.t 62), (.t 65)], [65], [], none, none⟩])
 (R_c0)) (St.mk s o) Q =
 (demand (faddrV 3 (s 10)) (fun x1 =>
demand (loadV o none x1) (fun x2 =>
demand (faddrV 5 (s 12)) (fun x3 =>
demand (faddrV 13 x3) (fun x4 =>
demand (loadV o none x4) (fun x5 =>
frzK (St.mk (upd (upd (upd (upd (upd s 61 x1) 62 x2) 63 x3) 64 x4) 65 x5) o) [65] (fun st6 =>
callK C I (St.mk st6.s st6.o) (some 66) 19 [(st6.s 62), (st6.s 65)] (fun r7 or7 =>
wpB C I R_c0 (St.mk (look [(2, (st6.s 2)), (8, (st6.s 8)), (10, (st6.s 10)), (12, (st6.s 12)), (23, (st6.s 23)), (24, (st6.s 24)), (25, (st6.s 25))]) (looko ([8, 10, 12, 17, 19].map fun n => (n, or7 n)))) Q)))))))) := rfl

theorem g_book_Year_c2_sh {R_c1 : ACode} {C : Ctx} {I : Nat → Prop} {s : Nat → V} {o : Nat → Option Ob} {Q : Ex → St → Prop} : wpB C I (.seq (.region [2, 8, 10, 12, 23, 24, 25] (some [8, 10, 12, 17, 19]) none
    [⟨some 54, .faddr 2 (.t 10), [], [], none, none⟩,
     ⟨some 55, .load none (.t 54), [], [], none, none⟩,
     ⟨some 56, .faddr 5 (.t 12), [], [], none, none⟩,
     ⟨some 57, .faddr 8 (.t 56), [], [], none, none⟩,
     ⟨some 58, .load none (.t 57), [], [], none, none⟩,
     ⟨some 59, .bin .add (.t 55) (.t 58), [], [], none, none⟩,
     ⟨some 60, .faddr 2 (.t 10), [], [], none, none⟩,
     ⟨none, .store 1 (.t 60) (.t 59), [], [], none, none⟩])
 (R_c1)) (St.mk s o) Q =
 (demand (faddrV 2 (s 10)) (fun x1 =>
demand (loadV o none x1) (fun x2 =>
demand (faddrV 5 (s 12)) (fun x3 =>
demand (faddrV 8 x3) (fun x4 =>
demand (loadV o none x4) (fun x5 =>
demand (binV BinOp.add x2 x5) (fun x6 =>
demand (faddrV 2 (s 10)) (fun x7 =>
storeK x7 (cellsV x6) 1 o (fun m8 ob9 =>
wpB C I R_c1 (St.mk (look [(2, (s 2)), (8, (s 8)), (10, (s 10)), (12, (s 12)), (23, (s 23)), (24, (s 24)), (25, (s 25))]) (looko ([8, 10, 12, 17, 19].map fun n => (n, (upd o m8 (some ob9)) n)))) Q))))))))) := rfl

theorem g_book_Year_c3_sh {R_c2 : ACode} {C : Ctx} {I : Nat → Prop} {s : Nat → V} {o : Nat → Option Ob} {Q : Ex → St → Prop} : wpB C I (.seq (.region [2, 8, 10, 12, 23, 24, 25] (some [8, 10, 12, 17, 19]) none
    [⟨some 41, .faddr 1 (.t 10), [], [], none, none⟩,
     ⟨some 42, .load none (.t 41), [], [], none, none⟩,
     ⟨some 43, .faddr 5 (.t 12), [], [], none, none⟩,
     ⟨some 44, .faddr 1 (.t 43), [], [], none, none⟩,
     ⟨some 45, .faddr 0 (.t 44), [], [], none, none⟩,
     ⟨some 46, .load none (.t 45), [], [], none, none⟩,
     ⟨some 47, .faddr 5 (.t 12), [], [], none, none⟩,
     ⟨some 48, .faddr 4 (.t 47), [], [], none, none⟩,
     ⟨some 49, .faddr 0 (.t 48), [], [], none, none⟩,
     ⟨some 50, .load none (.t 49), [], [], none, none⟩,
     ⟨some 51, .bin .add (.t 46) (.t 50), [], [], none, none⟩,
     ⟨some 52, .bin .add (.t 42) (.t 51), [], [], none, none⟩,
     ⟨some 53, .faddr 1 (.t 10), [], [], none, none⟩,
     ⟨none, .store 1 (.t 53) (.t 52), [], [], none, none⟩])
 (R_c2)) (St.mk s o) Q =
 (demand (faddrV 1 (s 10)) (fun x1 =>
demand (loadV o none x1) (fun x2 =>
demand (faddrV 5 (s 12)) (fun x3 =>
demand (faddrV 1 x3) (fun x4 =>
demand (faddrV 0 x4) (fun x5 =>
demand (loadV o none x5) (fun x6 =>
demand (faddrV 5 (s 12)) (fun x7 =>
demand (faddrV 4 x7) (fun x8 =>
demand (faddrV 0 x8) (fun x9 =>
demand (loadV o none x9) (fun x10 =>
demand (binV BinOp.add x6 x10) (fun x11 =>
demand (binV BinOp.add x2 x11) (fun x12 =>
demand (faddrV 1 (s 10)) (fun x13 =>
storeK x13 (cellsV x12) 1 o (fun m14 ob15 =>
wpB C I R_c2 (St.mk (look [(2, (s 2)), (8, (s 8)), (10, (s 10)), (12, (s 12)), (23, (s 23)), (24, (s 24)), (25, (s 25))]) (looko ([8, 10, 12, 17, 19].map fun n => (n, (upd o m14 (some ob15)) n)))) Q))))))))))))))) := rfl

theorem g_book_Year_c4_sh {R_c3 : ACode} {C : Ctx} {I : Nat → Prop} {s : Nat → V} {o : Nat → Option Ob} {Q : Ex → St → Prop} : wpB C I (.seq (.region [2, 8, 10, 12, 23, 24, 25] (some [8, 10, 12, 17, 19]) none
    [⟨some 34, .faddr 0 (.t 10), [], [], none, none⟩,
     ⟨some 35, .load none (.t 34), [], [], none, none⟩,
     ⟨some 36, .faddr 5 (.t 12), [], [], none, none⟩,
     ⟨some 37, .faddr 7 (.t 36), [], [], none, none⟩,
     ⟨some 38, .load none (.t 37), [], [], none, none⟩,
     ⟨some 39, .bin .add (.t 35) (.t 38), [], [], none, none⟩,
     ⟨some 40, .faddr 0 (.t 10), [], [], none, none⟩,
     ⟨none, .store 1 (.t 40) (.t 39), [], [], none, none⟩])
 (R_c3)) (St.mk s o) Q =
 (demand (faddrV 0 (s 10)) (fun x1 =>
demand (loadV o none x1) (fun x2 =>
demand (faddrV 5 (s 12)) (fun x3 =>
demand (faddrV 7 x3) (fun x4 =>
demand (loadV o none x4) (fun x5 =>
demand (binV BinOp.add x2 x5) (fun x6 =>
demand (faddrV 0 (s 10)) (fun x7 =>
storeK x7 (cellsV x6) 1 o (fun m8 ob9 =>
wpB C I R_c3 (St.mk (look [(2, (s 2)), (8, (s 8)), (10, (s 10)), (12, (s 12)), (23, (s 23)), (24, (s 24)), (25, (s 25))]) (looko ([8, 10, 12, 17, 19].map fun n => (n, (upd o m8 (some ob9)) n)))) Q))))))))) := rfl

theorem g_book_Year_c5_sh {R_c4 : ACode} {C : Ctx} {I : Nat → Prop} {s : Nat → V} {o : Nat → Option Ob} {Q : Ex → St → Prop} : wpB C I (.seq (.seq (.region [2, 8, 10, 12, 23, 24, 25, 33] (some [8, 10, 12, 17, 19]) none
     [⟨some 29, .faddr 1 (.t 12), [], [], none, none⟩,
      ⟨some 30, .load none (.t 29), [], [], none, none⟩,
      ⟨some 31, .bin .quo (.t 30) (.c (.d (.int .i64 12))), [], [], none, none⟩,
      ⟨some 32, .mv (.t 2), [], [], none, none⟩,
      ⟨some 33, .bin .neq (.t 31) (.t 32), [], [], none, none⟩])
  (.cond (.t 33) (.exit 1)
   (.skip)))
 (R_c4)) (St.mk s o) Q =
 (demand (faddrV 1 (s 12)) (fun x1 =>
demand (loadV o none x1) (fun x2 =>
demand (binV BinOp.quo x2 (V.d (.int .i64 12))) (fun x3 =>
demand (binV BinOp.neq x3 (s 2)) (fun x4 =>
condK x4
 (Q (.exit 1) (St.mk (look [(2, (s 2)), (8, (s 8)), (10, (s 10)), (12, (s 12)), (23, (s 23)), (24, (s 24)), (25, (s 25)), (33, x4)]) (looko ([8, 10, 12, 17, 19].map fun n => (n, o n)))))
 (wpB C I R_c4 (St.mk (look [(2, (s 2)), (8, (s 8)), (10, (s 10)), (12, (s 12)), (23, (s 23)), (24, (s 24)), (25, (s 25)), (33, x4)]) (looko ([8, 10, 12, 17, 19].map fun n => (n, o n)))) Q)))))) := rfl

theorem g_book_Year_c6_sh {C : Ctx} {I : Nat → Prop} {s : Nat → V} {o : Nat → Option Ob} {Q : Ex → St → Prop} : wpB C I (.region [2, 8, 10, 23, 24, 25] (some [8, 10, 17, 19]) none
   [⟨some 73, .bin .add (.t 25) (.c (.d (.int .i64 1))), [], [], none, none⟩,
    ⟨some 25, .mv (.t 73), [], [], none, none⟩]) (St.mk s o) Q =
 (demand (binV BinOp.add (s 25) (V.d (.int .i64 1))) (fun x1 =>
Q .normal (St.mk (look [(2, (s 2)), (8, (s 8)), (10, (s 10)), (23, (s 23)), (24, (s 24)), (25, x1)]) (looko ([8, 10, 17, 19].map fun n => (n, o n)))))) := rfl


end Pay
