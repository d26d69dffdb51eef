/- What the code of one function comes to, without slots: an equation for each part; no condition. -/
import Derived.Test.YtbhjjheefdilbaaPayU
import Derived.Test.YtbhjjheefdilbaaPayBkCode
set_option maxRecDepth 20000
set_option maxHeartbeats 400000
set_option linter.unusedVariables false
namespace Pay
open Go
theorem g_book_Find_o3_sh {C : Ctx} {I : Nat → Prop} {s : Nat → V} {o : Nat → Option Ob} {K : St → Prop} : opsB C I [⟨some 31, .pick (.t 27) (.t 30) (.c (.d (.bool false))), [], [], none, none⟩] (St.mk s o) K =
 (demand (pickV (s 27) (s 30) (V.d (.bool false))) (fun x1 =>
K (St.mk (upd s 31 x1) o))) := rfl

theorem g_book_Find_o2_sh {R_o3 : List AOper} {C : Ctx} {I : Nat → Prop} {s : Nat → V} {o : Nat → Option Ob} {K : St → Prop} : opsB C I (⟨some 28, .load (some 1) (.t 3), [], [], (some (10, 27, true)), none⟩ ::
     ⟨some 29, .mv (.t 7), [], [], (some (10, 27, true)), none⟩ ::
     ⟨some 30, .call 9 [(.t 28), (.t 29)], [], [], (some (10, 27, true)), (some ([1, 2, 3, 7, 10, 11, 12, 27, 30], (some [3])))⟩ ::
     R_o3) (St.mk s o) K =
 (guardK (s 27) true
 (demand (loadV o (some 1) (s 3)) (fun x1 =>
callK C I (St.mk (upd (upd (upd (upd (upd s 27 (V.d (D.bool true))) 28 x1) 27 (V.d (D.bool true))) 29 (s 7)) 27 (V.d (D.bool true))) o) (some 30) 9 [x1, (s 7)] (fun r2 or2 =>
opsB C I R_o3 (St.mk (look [(1, (s 1)), (2, (s 2)), (3, (s 3)), (7, (s 7)), (10, (s 10)), (11, (s 11)), (12, (s 12)), (27, (V.d (D.bool true))), (30, r2)]) (looko ([3].map fun n => (n, or2 n)))) K)))
 (opsB C I R_o3 (St.mk (look [(1, (s 1)), (2, (s 2)), (3, (s 3)), (7, (s 7)), (10, (s 10)), (11, (s 11)), (12, (s 12)), (27, (V.d (D.bool false))), (30, (V.tup []))]) (looko ([3].map fun n => (n, o n)))) K)
 (opsB C I R_o3 (St.mk (look [(1, (s 1)), (2, (s 2)), (3, (s 3)), (7, (s 7)), (10, (s 10)), (11, (s 11)), (12, (s 12)), (27, (V.tup [])), (30, (V.tup []))]) (looko ([3].map fun n => (n, o n)))) K)) := rfl

theorem g_book_Find_o1_sh {R_o2 : List AOper} {C : Ctx} {I : Nat → Prop} {s : Nat → V} {o : Nat → Option Ob} {K : St → Prop} : opsB C I (⟨some 26, .pick (.t 21) (.t 25) (.c (.d (.bool false))), [], [], none, none⟩ ::
     ⟨some 27, .mv (.t 26), [], [], none, (some ([1, 2, 3, 7, 10, 11, 12, 27], (some [3])))⟩ ::
     R_o2) (St.mk s o) K =
 (demand (pickV (s 21) (s 25) (V.d (.bool false))) (fun x1 =>
opsB C I R_o2 (St.mk (look [(1, (s 1)), (2, (s 2)), (3, (s 3)), (7, (s 7)), (10, (s 10)), (11, (s 11)), (12, (s 12)), (27, x1)]) (looko ([3].map fun n => (n, o n)))) K)) := rfl

theorem g_book_Find_o0_sh {R_o1 : List AOper} {C : Ctx} {I : Nat → Prop} {s : Nat → V} {o : Nat → Option Ob} {K : St → Prop} : opsB C I (⟨some 22, .faddr 1 (.t 8), [], [], (some (4, 21, true)), none⟩ ::
     ⟨some 23, .load none (.t 22), [], [], (some (4, 21, true)), none⟩ ::
     ⟨some 24, .mv (.t 2), [], [], (some (4, 21, true)), none⟩ ::
     ⟨some 25, .bin .eql (.t 23) (.t 24), [], [], (some (4, 21, true)), (some ([1, 2, 3, 7, 10, 11, 12, 21, 25], (some [3])))⟩ ::
     R_o1) (St.mk s o) K =
 (guardK (s 21) true
 (demand (faddrV 1 (s 8)) (fun x1 =>
demand (loadV o none x1) (fun x2 =>
demand (binV BinOp.eql x2 (s 2)) (fun x3 =>
opsB C I R_o1 (St.mk (look [(1, (s 1)), (2, (s 2)), (3, (s 3)), (7, (s 7)), (10, (s 10)), (11, (s 11)), (12, (s 12)), (21, (V.d (D.bool true))), (25, x3)]) (looko ([3].map fun n => (n, o n)))) K))))
 (opsB C I R_o1 (St.mk (look [(1, (s 1)), (2, (s 2)), (3, (s 3)), (7, (s 7)), (10, (s 10)), (11, (s 11)), (12, (s 12)), (21, (V.d (D.bool false))), (25, (V.tup []))]) (looko ([3].map fun n => (n, o n)))) K)
 (opsB C I R_o1 (St.mk (look [(1, (s 1)), (2, (s 2)), (3, (s 3)), (7, (s 7)), (10, (s 10)), (11, (s 11)), (12, (s 12)), (21, (V.tup [])), (25, (V.tup []))]) (looko ([3].map fun n => (n, o n)))) K)) := rfl

theorem g_book_Find_c0_sh {C : Ctx} {I : Nat → Prop} {s : Nat → V} {o : Nat → Option Ob} {Q : Ex → St → Prop} : wpB C I (.cond (.t 31) (.seq (.region [6] (some []) none
     [⟨some 32, .mv (.t 7), [], [], none, none⟩,
      ⟨some 6, .mv (.t 32), [], [], none, none⟩])
  (.ret))
 (.skip)) (St.mk s o) Q =
 (condK (s 31)
 (Q .ret (St.mk (look [(6, (s 7))]) (looko ([].map fun n => (n, o n)))))
 (Q .normal (St.mk s o))) := rfl

theorem g_book_Find_c1_sh {R_o0 : List AOper} {R_c0 : ACode} {C : Ctx} {I : Nat → Prop} {s : Nat → V} {o : Nat → Option Ob} {Q : Ex → St → Prop} : wpB C I (.seq (.region [1, 2, 3, 7, 10, 11, 12, 31] (some [3]) none
    (⟨some 17, .faddr 2 (.t 8), [], [], none, none⟩ ::
     ⟨some 18, .load none (.t 17), [], [], none, none⟩ ::
     ⟨some 19, .mv (.t 1), [], [], none, none⟩ ::
     ⟨some 20, .bin .eql (.t 18) (.t 19), [], [], none, none⟩ ::
     ⟨some 21, .mv (.t 20), [], [], none, (some ([1, 2, 3, 7, 8, 10, 11, 12, 21], (some [3, 8])))⟩ ::
     R_o0))
 (R_c0)) (St.mk s o) Q =
 (demand (faddrV 2 (s 8)) (fun x1 =>
demand (loadV o none x1) (fun x2 =>
demand (binV BinOp.eql x2 (s 1)) (fun x3 =>
opsB C I R_o0 (St.mk (look [(1, (s 1)), (2, (s 2)), (3, (s 3)), (7, (s 7)), (8, (s 8)), (10, (s 10)), (11, (s 11)), (12, (s 12)), (21, x3)]) (looko ([3, 8].map fun n => (n, o n)))) (fun st => (seqK (fun st => wpB C I R_c0 st Q) Q) .normal (St.trim st [1, 2, 3, 7, 10, 11, 12, 31] (some [3]))))))) := rfl

theorem g_book_Find_c2_sh {C : Ctx} {I : Nat → Prop} {s : Nat → V} {o : Nat → Option Ob} {Q : Ex → St → Prop} : wpB C I (.region [1, 2, 3, 10, 11, 12] (some [3]) none
   [⟨some 33, .bin .add (.t 12) (.c (.d (.int .i64 1))), [], [], none, none⟩,
    ⟨some 12, .mv (.t 33), [], [], none, none⟩]) (St.mk s o) Q =
 (demand (binV BinOp.add (s 12) (V.d (.int .i64 1))) (fun x1 =>
Q .normal (St.mk (look [(1, (s 1)), (2, (s 2)), (3, (s 3)), (10, (s 10)), (11, (s 11)), (12, x1)]) (looko ([3].map fun n => (n, o n)))))) := rfl

theorem g_book_Find_l0_sh {R_l0 : ACode} {R_c1 : ACode} {R_c2 : ACode} {C : Ctx} {I : Nat → Prop} {s : Nat → V} {o : Nat → Option Ob} {Q : Ex → St → Prop} (hL : R_l0 = .loop [1, 2, 3, 10, 11, 12] (some [3]) (.seq (.region [1, 2, 3, 10, 11, 12, 13] (some [3]) none
     [⟨some 13, .bin .lss (.t 12) (.t 11), [], [], none, none⟩])
  (.seq (.cond (.t 13) (.skip)
    (.exit 0))
   (.seq (.block 1 [1, 2, 3, 10, 11, 12] (some [3]) (.seq (.region [1, 2, 3, 7, 8, 10, 11, 12] (some [3, 8]) none
         [⟨some 14, .mv (.t 12), [], [], none, none⟩,
          ⟨some 15, .iaddr 22 (.t 10) (.t 12), [], [], none, none⟩,
          ⟨some 16, .load (some 22) (.t 15), [], [], none, none⟩,
          ⟨some 8, .alloc 8 [.d (.int .i64 0), .d (.int .i64 0), .d (.int .i64 0), .d (.int .i64 0), .d (.int .i64 0), .cap0, .d (.int .i64 0), .d (.int .i64 0), .d (.int .i64 0), .d (.int .i64 0), .d (.int .i64 0), .d (.int .i64 0), .d (.int .i64 0), .d (.int .i64 0), .d (.int .i64 0), .d (.int .i64 0), .d (.int .i64 0), .d (.int .i64 0), .cap0, .cap0, .cap0, .cap0], [], [], none, none⟩,
          ⟨some 7, .mv (.t 14), [], [], none, none⟩,
          ⟨none, .store 22 (.t 8) (.t 16), [], [], none, none⟩])
      (R_c1)))
    (R_c2)))))
 (h : demand (binV BinOp.lss (s 12) (s 11)) (fun x1 =>
condK x1
 (demand (iaddrV (looko ([3].map fun n => (n, o n))) 22 (s 10) (s 12)) (fun x2 =>
demand (loadV (looko ([3].map fun n => (n, o n))) (some 22) x2) (fun x3 =>
(¬ I 8 ∧ Fresh (St.mk (upd (upd (upd (look [(1, (s 1)), (2, (s 2)), (3, (s 3)), (10, (s 10)), (11, (s 11)), (12, (s 12)), (13, x1)]) 14 (s 12)) 15 x2) 16 x3) (looko ([3].map fun n => (n, o n)))) 8 (some 8) ∧ V.refsL 8 [V.d (.int .i64 0), V.d (.int .i64 0), V.d (.int .i64 0), V.d (.int .i64 0), V.d (.int .i64 0), V.cap0, V.d (.int .i64 0), V.d (.int .i64 0), V.d (.int .i64 0), V.d (.int .i64 0), V.d (.int .i64 0), V.d (.int .i64 0), V.d (.int .i64 0), V.d (.int .i64 0), V.d (.int .i64 0), V.d (.int .i64 0), V.d (.int .i64 0), V.d (.int .i64 0), V.cap0, V.cap0, V.cap0, V.cap0] = false ∧
storeK (V.ptr 8 0) (cellsV x3) 22 (upd (looko ([3].map fun n => (n, o n))) 8 (some (Ob.box [V.d (.int .i64 0), V.d (.int .i64 0), V.d (.int .i64 0), V.d (.int .i64 0), V.d (.int .i64 0), V.cap0, V.d (.int .i64 0), V.d (.int .i64 0), V.d (.int .i64 0), V.d (.int .i64 0), V.d (.int .i64 0), V.d (.int .i64 0), V.d (.int .i64 0), V.d (.int .i64 0), V.d (.int .i64 0), V.d (.int .i64 0), V.d (.int .i64 0), V.d (.int .i64 0), V.cap0, V.cap0, V.cap0, V.cap0]))) (fun m4 ob5 =>
wpB C I R_c1 (St.mk (look [(1, (s 1)), (2, (s 2)), (3, (s 3)), (7, (s 12)), (8, (V.ptr 8 0)), (10, (s 10)), (11, (s 11)), (12, (s 12))]) (looko ([3, 8].map fun n => (n, (upd (upd (looko ([3].map fun n => (n, o n))) 8 (some (Ob.box [V.d (.int .i64 0), V.d (.int .i64 0), V.d (.int .i64 0), V.d (.int .i64 0), V.d (.int .i64 0), V.cap0, V.d (.int .i64 0), V.d (.int .i64 0), V.d (.int .i64 0), V.d (.int .i64 0), V.d (.int .i64 0), V.d (.int .i64 0), V.d (.int .i64 0), V.d (.int .i64 0), V.d (.int .i64 0), V.d (.int .i64 0), V.d (.int .i64 0), V.d (.int .i64 0), V.cap0, V.cap0, V.cap0, V.cap0]))) m4 (some ob5)) n)))) (blockK 1 [1, 2, 3, 10, 11, 12] (some [3]) (seqK (fun st => wpB C I R_c2 st (seqK (fun s => wpB C I R_l0 s Q) Q)) (seqK (fun s => wpB C I R_l0 s Q) Q))))))))
 (Q (.exit 0) (St.mk (look [(1, (s 1)), (2, (s 2)), (3, (s 3)), (10, (s 10)), (11, (s 11)), (12, (s 12)), (13, x1)]) (looko ([3].map fun n => (n, o n))))))) : wpB C I R_l0 (St.mk s o) Q := w_loopC hL h

theorem g_book_Find_c3_sh {R_l0 : ACode} {C : Ctx} {I : Nat → Prop} {s : Nat → V} {o : Nat → Option Ob} {Q : Ex → St → Prop} : wpB C I (.block 0 [] (some []) (R_l0)) (St.mk s o) Q =
 (wpB C I R_l0 (St.mk s o) (blockK 0 [] (some []) Q)) := rfl

theorem g_book_Find_c4_sh {C : Ctx} {I : Nat → Prop} {s : Nat → V} {o : Nat → Option Ob} {Q : Ex → St → Prop} : wpB C I (.seq (.region [6] (some []) none
    [⟨some 6, .mv (.c (.d (.int .i64 (-1)))), [], [], none, none⟩])
 (.ret)) (St.mk s o) Q =
 (Q .ret (St.mk (look [(6, (V.d (.int .i64 (-1))))]) (looko ([].map fun n => (n, o n))))) := rfl

theorem g_book_Find_code_sh {R_c3 : ACode} {R_c4 : ACode} {C : Ctx} {I : Nat → Prop} {s : Nat → V} {o : Nat → Option Ob} {Q : Ex → St → Prop} : wpB C I (.seq (.region [1, 2, 3] (some [3]) none
    [⟨some 3, .box 3 1 (.t 0), [], [], none, none⟩,
     ⟨some 6, .mv (.c (.d (.int .i64 0))), [], [], none, none⟩])
 (.seq (.seq (.region [1, 2, 3, 10, 11, 12] (some [3]) none
      [⟨some 9, .faddr 0 (.t 3), [], [], none, none⟩,
       ⟨some 10, .load none (.t 9), [], [], none, none⟩,
       ⟨some 11, .len (.t 10), [], [], none, none⟩,
       ⟨some 12, .mv (.c (.d (.int .i64 0))), [], [], none, none⟩])
   (R_c3))
  (R_c4))) (St.mk s o) Q =
 (lstK (cellsV (s 0)) (fun c1 => c1.length = 1 ∧ ¬ I 3 ∧ Fresh (St.mk s o) 3 (some 3) ∧ V.refsL 3 c1 = false ∧
demand (faddrV 0 (V.ptr 3 0)) (fun x2 =>
demand (loadV (looko ([3].map fun n => (n, (upd o 3 (some (Ob.box c1))) n))) none x2) (fun x3 =>
demand (lenV (looko ([3].map fun n => (n, (upd o 3 (some (Ob.box c1))) n))) x3) (fun x4 =>
wpB C I R_c3 (St.mk (look [(1, (s 1)), (2, (s 2)), (3, (V.ptr 3 0)), (10, x3), (11, x4), (12, (V.d (.int .i64 0)))]) (looko ([3].map fun n => (n, (upd o 3 (some (Ob.box c1))) n)))) (seqK (fun st => wpB C I R_c4 st Q) Q)))))) := rfl


end Pay
