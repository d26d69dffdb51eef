/- What the code of one function comes to, without slots: an equation for each part; no condition. -/
import Derived.Test.YtbhjjheefdilbaaPayU
import Derived.Test.YtbhjjheefdilbaaPayBkCode
set_option maxRecDepth 20000
set_option maxHeartbeats 400000
set_option linter.unusedVariables false
namespace Pay
open Go
theorem g_book_Live_o5_sh {C : Ctx} {I : Nat → Prop} {s : Nat → V} {o : Nat → Option Ob} {K : St → Prop} : opsB C I [⟨some 29, .pick (.t 23) (.t 28) (.c (.d (.bool false))), [], [], none, none⟩,
     ⟨some 4, .mv (.t 29), [], [], none, none⟩] (St.mk s o) K =
 (demand (pickV (s 23) (s 28) (V.d (.bool false))) (fun x1 =>
K (St.mk (upd (upd s 29 x1) 4 x1) o))) := rfl

theorem g_book_Live_o4_sh {R_o5 : List AOper} {C : Ctx} {I : Nat → Prop} {s : Nat → V} {o : Nat → Option Ob} {K : St → Prop} : opsB C I (⟨some 24, .faddr 0 (.t 2), [], [], (some (18, 23, true)), none⟩ ::
     ⟨some 25, .load none (.t 24), [], [], (some (18, 23, true)), none⟩ ::
     ⟨some 26, .fnv 30 [(.t 3)], [], [], (some (18, 23, true)), none⟩ ::
     ⟨some 27, .call 15 [(.t 25), (.t 26)], [], [], (some (18, 23, true)), none⟩ ::
     ⟨some 28, .un .not (.t 27), [], [], (some (18, 23, true)), (some ([23, 28], (some [])))⟩ ::
     R_o5) (St.mk s o) K =
 (guardK (s 23) true
 (demand (faddrV 0 (s 2)) (fun x1 =>
demand (loadV o none x1) (fun x2 =>
callK C I (St.mk (upd (upd (upd (upd (upd (upd (upd s 23 (V.d (D.bool true))) 24 x1) 23 (V.d (D.bool true))) 25 x2) 23 (V.d (D.bool true))) 26 (V.fn 30 [(s 3)])) 23 (V.d (D.bool true))) o) (some 27) 15 [x2, (V.fn 30 [(s 3)])] (fun r3 or3 =>
demand (unV UnOp.not r3) (fun x4 =>
opsB C I R_o5 (St.mk (look [(23, (V.d (D.bool true))), (28, x4)]) (looko ([].map fun n => (n, or3 n)))) K)))))
 (opsB C I R_o5 (St.mk (look [(23, (V.d (D.bool false))), (28, (V.tup []))]) (looko ([].map fun n => (n, o n)))) K)
 (opsB C I R_o5 (St.mk (look [(23, (V.tup [])), (28, (V.tup []))]) (looko ([].map fun n => (n, o n)))) K)) := rfl

theorem g_book_Live_o3_sh {R_o4 : List AOper} {C : Ctx} {I : Nat → Prop} {s : Nat → V} {o : Nat → Option Ob} {K : St → Prop} : opsB C I (⟨some 22, .pick (.t 14) (.t 21) (.c (.d (.bool false))), [], [], none, none⟩ ::
     ⟨some 23, .mv (.t 22), [], [], none, (some ([2, 3, 23], (some [2, 3])))⟩ ::
     R_o4) (St.mk s o) K =
 (demand (pickV (s 14) (s 21) (V.d (.bool false))) (fun x1 =>
opsB C I R_o4 (St.mk (look [(2, (s 2)), (3, (s 3)), (23, x1)]) (looko ([2, 3].map fun n => (n, o n)))) K)) := rfl

theorem g_book_Live_o2_sh {R_o3 : List AOper} {C : Ctx} {I : Nat → Prop} {s : Nat → V} {o : Nat → Option Ob} {K : St → Prop} : opsB C I (⟨some 15, .faddr 0 (.t 2), [], [], (some (9, 14, true)), none⟩ ::
     ⟨some 16, .load none (.t 15), [], [], (some (9, 14, true)), none⟩ ::
     ⟨some 17, .load none (.t 3), [], [], (some (9, 14, true)), none⟩ ::
     ⟨some 18, .iaddr 22 (.t 16) (.t 17), [], [], (some (9, 14, true)), none⟩ ::
     ⟨some 19, .faddr 4 (.t 18), [], [], (some (9, 14, true)), none⟩ ::
     ⟨some 20, .load none (.t 19), [], [], (some (9, 14, true)), none⟩ ::
     ⟨some 21, .bin .eql (.t 20) (.c (.d (.int .i64 0))), [], [], (some (9, 14, true)), (some ([2, 3, 14, 21], (some [2, 3])))⟩ ::
     R_o3) (St.mk s o) K =
 (guardK (s 14) true
 (demand (faddrV 0 (s 2)) (fun x1 =>
demand (loadV o none x1) (fun x2 =>
demand (loadV o none (s 3)) (fun x3 =>
demand (iaddrV o 22 x2 x3) (fun x4 =>
demand (faddrV 4 x4) (fun x5 =>
demand (loadV o none x5) (fun x6 =>
demand (binV BinOp.eql x6 (V.d (.int .i64 0))) (fun x7 =>
opsB C I R_o3 (St.mk (look [(2, (s 2)), (3, (s 3)), (14, (V.d (D.bool true))), (21, x7)]) (looko ([2, 3].map fun n => (n, o n)))) K))))))))
 (opsB C I R_o3 (St.mk (look [(2, (s 2)), (3, (s 3)), (14, (V.d (D.bool false))), (21, (V.tup []))]) (looko ([2, 3].map fun n => (n, o n)))) K)
 (opsB C I R_o3 (St.mk (look [(2, (s 2)), (3, (s 3)), (14, (V.tup [])), (21, (V.tup []))]) (looko ([2, 3].map fun n => (n, o n)))) K)) := rfl

theorem g_book_Live_o1_sh {R_o2 : List AOper} {C : Ctx} {I : Nat → Prop} {s : Nat → V} {o : Nat → Option Ob} {K : St → Prop} : opsB C I (⟨some 13, .pick (.t 7) (.t 12) (.c (.d (.bool false))), [], [], none, none⟩ ::
     ⟨some 14, .mv (.t 13), [], [], none, (some ([2, 3, 14], (some [2, 3])))⟩ ::
     R_o2) (St.mk s o) K =
 (demand (pickV (s 7) (s 12) (V.d (.bool false))) (fun x1 =>
opsB C I R_o2 (St.mk (look [(2, (s 2)), (3, (s 3)), (14, x1)]) (looko ([2, 3].map fun n => (n, o n)))) K)) := rfl

theorem g_book_Live_o0_sh {R_o1 : List AOper} {C : Ctx} {I : Nat → Prop} {s : Nat → V} {o : Nat → Option Ob} {K : St → Prop} : opsB C I (⟨some 8, .load none (.t 3), [], [], (some (2, 7, true)), none⟩ ::
     ⟨some 9, .faddr 0 (.t 2), [], [], (some (2, 7, true)), none⟩ ::
     ⟨some 10, .load none (.t 9), [], [], (some (2, 7, true)), none⟩ ::
     ⟨some 11, .len (.t 10), [], [], (some (2, 7, true)), none⟩ ::
     ⟨some 12, .bin .lss (.t 8) (.t 11), [], [], (some (2, 7, true)), (some ([2, 3, 7, 12], (some [2, 3])))⟩ ::
     R_o1) (St.mk s o) K =
 (guardK (s 7) true
 (demand (loadV o none (s 3)) (fun x1 =>
demand (faddrV 0 (s 2)) (fun x2 =>
demand (loadV o none x2) (fun x3 =>
demand (lenV o x3) (fun x4 =>
demand (binV BinOp.lss x1 x4) (fun x5 =>
opsB C I R_o1 (St.mk (look [(2, (s 2)), (3, (s 3)), (7, (V.d (D.bool true))), (12, x5)]) (looko ([2, 3].map fun n => (n, o n)))) K))))))
 (opsB C I R_o1 (St.mk (look [(2, (s 2)), (3, (s 3)), (7, (V.d (D.bool false))), (12, (V.tup []))]) (looko ([2, 3].map fun n => (n, o n)))) K)
 (opsB C I R_o1 (St.mk (look [(2, (s 2)), (3, (s 3)), (7, (V.tup [])), (12, (V.tup []))]) (looko ([2, 3].map fun n => (n, o n)))) K)) := rfl

theorem g_book_Live_c0_sh {C : Ctx} {I : Nat → Prop} {s : Nat → V} {o : Nat → Option Ob} {Q : Ex → St → Prop} : wpB C I (.ret) (St.mk s o) Q =
 (Q .ret (St.mk s o)) := rfl

theorem g_book_Live_code_sh {R_o0 : List AOper} {R_c0 : ACode} {C : Ctx} {I : Nat → Prop} {s : Nat → V} {o : Nat → Option Ob} {Q : Ex → St → Prop} : wpB C I (.seq (.region [2, 3] (some [2, 3]) none
    [⟨some 2, .box 2 1 (.t 0), [], [], none, none⟩,
     ⟨some 3, .box 3 1 (.t 1), [], [], none, none⟩,
     ⟨some 4, .mv (.c (.d (.bool false))), [], [], none, none⟩])
 (.seq (.region [4] (some []) none
     (⟨some 5, .load none (.t 3), [], [], none, none⟩ ::
      ⟨some 6, .bin .geq (.t 5) (.c (.d (.int .i64 0))), [], [], none, none⟩ ::
      ⟨some 7, .mv (.t 6), [], [], none, (some ([2, 3, 7], (some [2, 3])))⟩ ::
      R_o0))
  (R_c0))) (St.mk s o) Q =
 (lstK (cellsV (s 0)) (fun c1 => c1.length = 1 ∧ ¬ I 2 ∧ Fresh (St.mk s o) 2 (some 2) ∧ V.refsL 2 c1 = false ∧
lstK (cellsV (s 1)) (fun c2 => c2.length = 1 ∧ ¬ I 3 ∧ Fresh (St.mk (upd s 2 (V.ptr 2 0)) (upd o 2 (some (Ob.box c1)))) 3 (some 3) ∧ V.refsL 3 c2 = false ∧
demand (loadV (looko ([2, 3].map fun n => (n, (upd (upd o 2 (some (Ob.box c1))) 3 (some (Ob.box c2))) n))) none (V.ptr 3 0)) (fun x3 =>
demand (binV BinOp.geq x3 (V.d (.int .i64 0))) (fun x4 =>
opsB C I R_o0 (St.mk (look [(2, (V.ptr 2 0)), (3, (V.ptr 3 0)), (7, x4)]) (looko ([2, 3].map fun n => (n, (upd (upd o 2 (some (Ob.box c1))) 3 (some (Ob.box c2))) n)))) (fun st => (seqK (fun st => wpB C I R_c0 st Q) Q) .normal (St.trim st [4] (some [])))))))) := rfl


end Pay
