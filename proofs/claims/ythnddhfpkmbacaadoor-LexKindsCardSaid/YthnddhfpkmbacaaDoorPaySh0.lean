/- What the code of the functions comes to, without slots: an equation for each part; no condition. -/
import Derived.Test.YthnddhfpkmbacaaDoorPayU
import Derived.Test.YthnddhfpkmbacaaDoorPayCode0
set_option maxRecDepth 20000
set_option maxHeartbeats 400000
set_option linter.unusedVariables false
namespace Pay
open Go
theorem g_law07_LexExact_o5_sh {C : Ctx} {I : Nat → Prop} {s : Nat → V} {o : Nat → Option Ob} {K : St → Prop} : opsB C I [⟨some 40, .pick (.t 38) (.t 39) (.c (.d (.bool false))), [], [], none, none⟩,
     ⟨some 2, .mv (.t 40), [], [], none, none⟩] (St.mk s o) K =
 (demand (pickV (s 38) (s 39) (V.d (.bool false))) (fun x1 =>
K (St.mk (upd (upd s 40 x1) 2 x1) o))) := rfl
theorem g_law07_LexExact_o4_sh {R_o5 : List AOper} {C : Ctx} {I : Nat → Prop} {s : Nat → V} {o : Nat → Option Ob} {K : St → Prop} : opsB C I (⟨some 39, .call 73 [], [], [], (some (12, 38, true)), (some ([38, 39], (some [])))⟩ ::
     R_o5) (St.mk s o) K =
 (guardK (s 38) true
 (callK C I (St.mk (upd s 38 (V.d (D.bool true))) o) (some 39) 73 [] (fun r1 or1 =>
opsB C I R_o5 (St.mk (look [(38, (V.d (D.bool true))), (39, r1)]) (looko ([].map fun n => (n, or1 n)))) K))
 (opsB C I R_o5 (St.mk (look [(38, (V.d (D.bool false))), (39, (V.tup []))]) (looko ([].map fun n => (n, o n)))) K)
 (opsB C I R_o5 (St.mk (look [(38, (V.tup [])), (39, (V.tup []))]) (looko ([].map fun n => (n, o n)))) K)) := rfl
theorem g_law07_LexExact_o3_sh {R_o4 : List AOper} {C : Ctx} {I : Nat → Prop} {s : Nat → V} {o : Nat → Option Ob} {K : St → Prop} : opsB C I (⟨some 37, .pick (.t 34) (.t 36) (.c (.d (.bool false))), [], [], none, none⟩ ::
     ⟨some 38, .mv (.t 37), [], [], none, (some ([38], (some [])))⟩ ::
     R_o4) (St.mk s o) K =
 (demand (pickV (s 34) (s 36) (V.d (.bool false))) (fun x1 =>
opsB C I R_o4 (St.mk (look [(38, x1)]) (looko ([].map fun n => (n, o n)))) K)) := rfl
theorem g_law07_LexExact_o2_sh {R_o3 : List AOper} {C : Ctx} {I : Nat → Prop} {s : Nat → V} {o : Nat → Option Ob} {K : St → Prop} : opsB C I (⟨some 35, .mv (.t 5), [], [], (some (8, 34, true)), none⟩ ::
     ⟨some 36, .bin .eql (.t 35) (.c (.d (.int .i64 2))), [], [], (some (8, 34, true)), (some ([34, 36], (some [])))⟩ ::
     R_o3) (St.mk s o) K =
 (guardK (s 34) true
 (demand (binV BinOp.eql (s 5) (V.d (.int .i64 2))) (fun x1 =>
opsB C I R_o3 (St.mk (look [(34, (V.d (D.bool true))), (36, x1)]) (looko ([].map fun n => (n, o n)))) K))
 (opsB C I R_o3 (St.mk (look [(34, (V.d (D.bool false))), (36, (V.tup []))]) (looko ([].map fun n => (n, o n)))) K)
 (opsB C I R_o3 (St.mk (look [(34, (V.tup [])), (36, (V.tup []))]) (looko ([].map fun n => (n, o n)))) K)) := rfl
theorem g_law07_LexExact_o1_sh {R_o2 : List AOper} {C : Ctx} {I : Nat → Prop} {s : Nat → V} {o : Nat → Option Ob} {K : St → Prop} : opsB C I (⟨some 33, .pick (.t 29) (.t 32) (.c (.d (.bool false))), [], [], none, none⟩ ::
     ⟨some 34, .mv (.t 33), [], [], none, (some ([5, 34], (some [])))⟩ ::
     R_o2) (St.mk s o) K =
 (demand (pickV (s 29) (s 32) (V.d (.bool false))) (fun x1 =>
opsB C I R_o2 (St.mk (look [(5, (s 5)), (34, x1)]) (looko ([].map fun n => (n, o n)))) K)) := rfl
theorem g_law07_LexExact_o0_sh {R_o1 : List AOper} {C : Ctx} {I : Nat → Prop} {s : Nat → V} {o : Nat → Option Ob} {K : St → Prop} : opsB C I (⟨some 30, .mv (.t 4), [], [], (some (3, 29, true)), none⟩ ::
     ⟨some 31, .mv (.t 7), [], [], (some (3, 29, true)), none⟩ ::
     ⟨some 32, .bin .eql (.t 30) (.t 31), [], [], (some (3, 29, true)), (some ([5, 29, 32], (some [])))⟩ ::
     R_o1) (St.mk s o) K =
 (guardK (s 29) true
 (demand (binV BinOp.eql (s 4) (s 7)) (fun x1 =>
opsB C I R_o1 (St.mk (look [(5, (s 5)), (29, (V.d (D.bool true))), (32, x1)]) (looko ([].map fun n => (n, o n)))) K))
 (opsB C I R_o1 (St.mk (look [(5, (s 5)), (29, (V.d (D.bool false))), (32, (V.tup []))]) (looko ([].map fun n => (n, o n)))) K)
 (opsB C I R_o1 (St.mk (look [(5, (s 5)), (29, (V.tup [])), (32, (V.tup []))]) (looko ([].map fun n => (n, o n)))) K)) := rfl
theorem g_law07_LexExact_c0_sh {C : Ctx} {I : Nat → Prop} {s : Nat → V} {o : Nat → Option Ob} {Q : Ex → St → Prop} : wpB C I (.ret) (St.mk s o) Q =
 (Q .ret (St.mk s o)) := rfl
theorem g_law07_LexExact_o9_sh {C : Ctx} {I : Nat → Prop} {s : Nat → V} {o : Nat → Option Ob} {K : St → Prop} : opsB C I [⟨some 53, .pick (.t 50) (.c (.d (.bool true))) (.t 52), [], [], none, none⟩] (St.mk s o) K =
 (demand (pickV (s 50) (V.d (.bool true)) (s 52)) (fun x1 =>
K (St.mk (upd s 53 x1) o))) := rfl
theorem g_law07_LexExact_o8_sh {R_o9 : List AOper} {C : Ctx} {I : Nat → Prop} {s : Nat → V} {o : Nat → Option Ob} {K : St → Prop} : opsB C I (⟨some 51, .mv (.t 5), [], [], (some (9, 50, false)), none⟩ ::
     ⟨some 52, .bin .neq (.t 51) (.c (.d (.int .i64 0))), [], [], (some (9, 50, false)), (some ([3, 6, 50, 52], (some [])))⟩ ::
     R_o9) (St.mk s o) K =
 (guardK (s 50) false
 (demand (binV BinOp.neq (s 5) (V.d (.int .i64 0))) (fun x1 =>
opsB C I R_o9 (St.mk (look [(3, (s 3)), (6, (s 6)), (50, (V.d (D.bool false))), (52, x1)]) (looko ([].map fun n => (n, o n)))) K))
 (opsB C I R_o9 (St.mk (look [(3, (s 3)), (6, (s 6)), (50, (V.d (D.bool true))), (52, (V.tup []))]) (looko ([].map fun n => (n, o n)))) K)
 (opsB C I R_o9 (St.mk (look [(3, (s 3)), (6, (s 6)), (50, (V.tup [])), (52, (V.tup []))]) (looko ([].map fun n => (n, o n)))) K)) := rfl
theorem g_law07_LexExact_o7_sh {R_o8 : List AOper} {C : Ctx} {I : Nat → Prop} {s : Nat → V} {o : Nat → Option Ob} {K : St → Prop} : opsB C I (⟨some 49, .pick (.t 46) (.c (.d (.bool true))) (.t 48), [], [], none, none⟩ ::
     ⟨some 50, .mv (.t 49), [], [], none, (some ([3, 5, 6, 50], (some [])))⟩ ::
     R_o8) (St.mk s o) K =
 (demand (pickV (s 46) (V.d (.bool true)) (s 48)) (fun x1 =>
opsB C I R_o8 (St.mk (look [(3, (s 3)), (5, (s 5)), (6, (s 6)), (50, x1)]) (looko ([].map fun n => (n, o n)))) K)) := rfl
theorem g_law07_LexExact_o6_sh {R_o7 : List AOper} {C : Ctx} {I : Nat → Prop} {s : Nat → V} {o : Nat → Option Ob} {K : St → Prop} : opsB C I (⟨some 47, .mv (.t 4), [], [], (some (5, 46, false)), none⟩ ::
     ⟨some 48, .bin .neq (.t 47) (.c (.d (.int .i64 0))), [], [], (some (5, 46, false)), (some ([3, 5, 6, 46, 48], (some [])))⟩ ::
     R_o7) (St.mk s o) K =
 (guardK (s 46) false
 (demand (binV BinOp.neq (s 4) (V.d (.int .i64 0))) (fun x1 =>
opsB C I R_o7 (St.mk (look [(3, (s 3)), (5, (s 5)), (6, (s 6)), (46, (V.d (D.bool false))), (48, x1)]) (looko ([].map fun n => (n, o n)))) K))
 (opsB C I R_o7 (St.mk (look [(3, (s 3)), (5, (s 5)), (6, (s 6)), (46, (V.d (D.bool true))), (48, (V.tup []))]) (looko ([].map fun n => (n, o n)))) K)
 (opsB C I R_o7 (St.mk (look [(3, (s 3)), (5, (s 5)), (6, (s 6)), (46, (V.tup [])), (48, (V.tup []))]) (looko ([].map fun n => (n, o n)))) K)) := rfl
theorem g_law07_LexExact_c1_sh {C : Ctx} {I : Nat → Prop} {s : Nat → V} {o : Nat → Option Ob} {Q : Ex → St → Prop} : wpB C I (.cond (.t 53) (.seq (.region [2] (some []) none
     [⟨some 2, .mv (.c (.d (.bool false))), [], [], none, none⟩])
  (.ret))
 (.skip)) (St.mk s o) Q =
 (condK (s 53)
 (Q .ret (St.mk (look [(2, (V.d (.bool false)))]) (looko ([].map fun n => (n, o n)))))
 (Q .normal (St.mk s o))) := rfl
theorem g_law07_LexExact_c2_sh {C : Ctx} {I : Nat → Prop} {s : Nat → V} {o : Nat → Option Ob} {Q : Ex → St → Prop} : wpB C I (.region [3, 6, 55, 56] (some []) none
   [⟨some 68, .bin .add (.t 56) (.c (.d (.int .i64 1))), [], [], none, none⟩,
    ⟨some 56, .mv (.t 68), [], [], none, none⟩]) (St.mk s o) Q =
 (demand (binV BinOp.add (s 56) (V.d (.int .i64 1))) (fun x1 =>
Q .normal (St.mk (look [(3, (s 3)), (6, (s 6)), (55, (s 55)), (56, x1)]) (looko ([].map fun n => (n, o n)))))) := rfl
theorem g_law07_LexExact_l0_sh {R_l0 : ACode} {R_c2 : ACode} {C : Ctx} {I : Nat → Prop} {s : Nat → V} {o : Nat → Option Ob} {Q : Ex → St → Prop} (hL : R_l0 = .loop [3, 6, 55, 56] (some []) (.seq (.region [3, 6, 55, 56, 57] (some []) none
     [⟨some 57, .bin .lss (.t 56) (.t 55), [], [], none, none⟩])
  (.seq (.cond (.t 57) (.skip)
    (.exit 0))
   (.seq (.block 1 [3, 6, 55, 56] (some []) (.seq (.region [3, 6, 8, 55, 56] (some []) none
         [⟨some 58, .mv (.t 56), [], [], none, none⟩,
          ⟨some 8, .mv (.t 58), [], [], none, none⟩])
      (.seq (.region [3, 6, 55, 56, 67] (some []) (some ([0, 1, 2, 3, 4, 5, 6, 7, 8], .done))
          [⟨some 59, .mv (.t 3), [], [], none, none⟩,
           ⟨some 60, .mv (.t 8), [], [], none, none⟩,
           ⟨some 61, .iaddr 3 (.t 59) (.t 60), [], [0, 1], none, none⟩,
           ⟨some 62, .load (some 3) (.t 61), [], [2], none, none⟩,
           ⟨some 63, .mv (.t 6), [], [], none, none⟩,
           ⟨some 64, .mv (.t 8), [], [], none, none⟩,
           ⟨some 65, .iaddr 3 (.t 63) (.t 64), [], [4, 5], none, none⟩,
           ⟨some 66, .load (some 3) (.t 65), [], [6], none, none⟩,
           ⟨some 67, .eqs true [0, 2, 0] (.t 62) (.t 66), [], [3, 7], none, none⟩])
       (.cond (.t 67) (.seq (.region [2] (some []) none
            [⟨some 2, .mv (.c (.d (.bool false))), [], [], none, none⟩])
         (.ret))
        (.skip)))))
    (R_c2)))))
 (h : demand (binV BinOp.lss (s 56) (s 55)) (fun x1 =>
condK x1
 (V.undef = V.undef ∧ (quietV (looko ([].map fun n => (n, o n))) ((s 3) :: [(s 3)]) ∧
V.undef = V.undef ∧ (quietV (looko ([].map fun n => (n, o n))) ((s 56) :: [(s 56)]) ∧
V.undef = V.undef ∧ (demand (iaddrV (looko ([].map fun n => (n, o n))) 3 (s 3) (s 56)) (fun x4 => quietV (looko ([].map fun n => (n, o n))) (x4 :: [(s 3), (s 56)]) ∧
V.undef = V.undef ∧ (demand (loadV (looko ([].map fun n => (n, o n))) (some 3) x4) (fun x5 => quietV (looko ([].map fun n => (n, o n))) (x5 :: [x4]) ∧
V.undef = V.undef ∧ (quietV (looko ([].map fun n => (n, o n))) ((s 6) :: [(s 6)]) ∧
V.undef = V.undef ∧ (quietV (looko ([].map fun n => (n, o n))) ((s 56) :: [(s 56)]) ∧
V.undef = V.undef ∧ (demand (iaddrV (looko ([].map fun n => (n, o n))) 3 (s 6) (s 56)) (fun x8 => quietV (looko ([].map fun n => (n, o n))) (x8 :: [(s 6), (s 56)]) ∧
V.undef = V.undef ∧ (demand (loadV (looko ([].map fun n => (n, o n))) (some 3) x8) (fun x9 => quietV (looko ([].map fun n => (n, o n))) (x9 :: [x8]) ∧
V.undef = V.undef ∧ (demand (eqsV true [0, 2, 0] x5 x9) (fun x10 => quietV (looko ([].map fun n => (n, o n))) (x10 :: [x5, x9]) ∧
condK x10
 (Q .ret (St.mk (look [(2, (V.d (.bool false)))]) (looko ([].map fun n => (n, o n)))))
 (wpB C I R_c2 (St.mk (look [(3, (s 3)), (6, (s 6)), (55, (s 55)), (56, (s 56))]) (looko ([].map fun n => (n, o n)))) (seqK (fun s => wpB C I R_l0 s Q) Q)))))))))))))))))
 (Q (.exit 0) (St.mk (look [(3, (s 3)), (6, (s 6)), (55, (s 55)), (56, (s 56)), (57, x1)]) (looko ([].map fun n => (n, o n))))))) : wpB C I R_l0 (St.mk s o) Q := w_loopC hL h
theorem g_law07_LexExact_c3_sh {C : Ctx} {I : Nat → Prop} {s : Nat → V} {o : Nat → Option Ob} {Q : Ex → St → Prop} : wpB C I (.seq (.region [2] (some []) none
    [⟨some 69, .call 73 [], [], [], none, none⟩,
     ⟨some 2, .mv (.t 69), [], [], none, none⟩])
 (.ret)) (St.mk s o) Q =
 (callK C I (St.mk s o) (some 69) 73 [] (fun r1 or1 =>
Q .ret (St.mk (look [(2, r1)]) (looko ([].map fun n => (n, or1 n)))))) := rfl
theorem g_law07_LexExact_c4_sh {R_l0 : ACode} {R_c3 : ACode} {C : Ctx} {I : Nat → Prop} {s : Nat → V} {o : Nat → Option Ob} {Q : Ex → St → Prop} : wpB C I (.seq (.seq (.region [3, 6, 55, 56] (some []) none
     [⟨some 54, .mv (.t 3), [], [], none, none⟩,
      ⟨some 55, .len (.t 54), [], [], none, none⟩,
      ⟨some 56, .mv (.c (.d (.int .i64 0))), [], [], none, none⟩])
  (.block 0 [] (some []) (R_l0)))
 (R_c3)) (St.mk s o) Q =
 (demand (lenV o (s 3)) (fun x1 =>
wpB C I R_l0 (St.mk (look [(3, (s 3)), (6, (s 6)), (55, x1), (56, (V.d (.int .i64 0)))]) (looko ([].map fun n => (n, o n)))) (blockK 0 [] (some []) (seqK (fun st => wpB C I R_c3 st Q) Q)))) := rfl
theorem g_law07_LexExact_c5_sh {R_o6 : List AOper} {R_c1 : ACode} {R_c4 : ACode} {C : Ctx} {I : Nat → Prop} {s : Nat → V} {o : Nat → Option Ob} {Q : Ex → St → Prop} : wpB C I (.seq (.seq (.region [3, 6, 53] (some []) none
     (⟨some 41, .mv (.t 3), [], [], none, none⟩ ::
      ⟨some 42, .len (.t 41), [], [], none, none⟩ ::
      ⟨some 43, .mv (.t 6), [], [], none, none⟩ ::
      ⟨some 44, .len (.t 43), [], [], none, none⟩ ::
      ⟨some 45, .bin .neq (.t 42) (.t 44), [], [], none, none⟩ ::
      ⟨some 46, .mv (.t 45), [], [], none, (some ([3, 4, 5, 6, 46], (some [])))⟩ ::
      R_o6))
  (R_c1))
 (R_c4)) (St.mk s o) Q =
 (demand (lenV o (s 3)) (fun x1 =>
demand (lenV o (s 6)) (fun x2 =>
demand (binV BinOp.neq x1 x2) (fun x3 =>
opsB C I R_o6 (St.mk (look [(3, (s 3)), (4, (s 4)), (5, (s 5)), (6, (s 6)), (46, x3)]) (looko ([].map fun n => (n, o n)))) (fun st => (seqK (fun st => wpB C I R_c1 st (seqK (fun st => wpB C I R_c4 st Q) Q)) (seqK (fun st => wpB C I R_c4 st Q) Q)) .normal (St.trim st [3, 6, 53] (some []))))))) := rfl
theorem g_law07_LexExact_c6_sh {R_o0 : List AOper} {R_c0 : ACode} {R_c5 : ACode} {C : Ctx} {I : Nat → Prop} {s : Nat → V} {o : Nat → Option Ob} {Q : Ex → St → Prop} : wpB C I (.seq (.seq (.region [3, 4, 5, 6, 7, 25] (some []) none
     [⟨some 24, .mv (.t 7), [], [], none, none⟩,
      ⟨some 25, .bin .geq (.t 24) (.c (.d (.int .i64 0))), [], [], none, none⟩])
  (.cond (.t 25) (.seq (.region [2] (some []) none
       (⟨some 26, .mv (.t 3), [], [], none, none⟩ ::
        ⟨some 27, .len (.t 26), [], [], none, none⟩ ::
        ⟨some 28, .bin .eql (.t 27) (.c (.d (.int .i64 0))), [], [], none, none⟩ ::
        ⟨some 29, .mv (.t 28), [], [], none, (some ([4, 5, 7, 29], (some [])))⟩ ::
        R_o0))
    (R_c0))
   (.skip)))
 (R_c5)) (St.mk s o) Q =
 (demand (binV BinOp.geq (s 7) (V.d (.int .i64 0))) (fun x1 =>
condK x1
 (demand (lenV (looko ([].map fun n => (n, o n))) (s 3)) (fun x2 =>
demand (binV BinOp.eql x2 (V.d (.int .i64 0))) (fun x3 =>
opsB C I R_o0 (St.mk (look [(4, (s 4)), (5, (s 5)), (7, (s 7)), (29, x3)]) (looko ([].map fun n => (n, o n)))) (fun st => (seqK (fun st => wpB C I R_c0 st (seqK (fun st => wpB C I R_c5 st Q) Q)) (seqK (fun st => wpB C I R_c5 st Q) Q)) .normal (St.trim st [2] (some []))))))
 (wpB C I R_c5 (St.mk (look [(3, (s 3)), (4, (s 4)), (5, (s 5)), (6, (s 6)), (7, (s 7)), (25, x1)]) (looko ([].map fun n => (n, o n)))) Q))) := rfl
theorem g_law07_LexExact_c7_sh {R_c6 : ACode} {C : Ctx} {I : Nat → Prop} {s : Nat → V} {o : Nat → Option Ob} {Q : Ex → St → Prop} : wpB C I (.seq (.region [3, 4, 5, 6, 7] (some []) none
    [⟨some 20, .mv (.t 0), [], [], none, none⟩,
     ⟨some 21, .call 75 [(.t 20)], [], [], none, none⟩,
     ⟨some 19, .mv (.t 21), [], [], none, none⟩,
     ⟨some 22, .ext (.t 19) 0, [], [], none, none⟩,
     ⟨some 23, .ext (.t 19) 1, [], [], none, none⟩,
     ⟨some 6, .mv (.t 22), [], [], none, none⟩,
     ⟨some 7, .mv (.t 23), [], [], none, none⟩])
 (R_c6)) (St.mk s o) Q =
 (callK C I (St.mk (upd s 20 (s 0)) o) (some 21) 75 [(s 0)] (fun r1 or1 =>
demand (extV r1 0) (fun x2 =>
demand (extV r1 1) (fun x3 =>
wpB C I R_c6 (St.mk (look [(3, (s 3)), (4, (s 4)), (5, (s 5)), (6, x2), (7, x3)]) (looko ([].map fun n => (n, or1 n)))) Q)))) := rfl
theorem g_law07_LexExact_c8_sh {R_c7 : ACode} {C : Ctx} {I : Nat → Prop} {s : Nat → V} {o : Nat → Option Ob} {Q : Ex → St → Prop} : wpB C I (.seq (.region [0, 3, 4, 5] (some []) none
    [⟨some 14, .mv (.t 0), [], [], none, none⟩,
     ⟨some 15, .call 74 [(.t 14)], [], [], none, none⟩,
     ⟨some 13, .mv (.t 15), [], [], none, none⟩,
     ⟨some 16, .ext (.t 13) 0, [], [], none, none⟩,
     ⟨some 17, .ext (.t 13) 1, [], [], none, none⟩,
     ⟨some 18, .ext (.t 13) 2, [], [], none, none⟩,
     ⟨some 3, .mv (.t 16), [], [], none, none⟩,
     ⟨some 4, .mv (.t 17), [], [], none, none⟩,
     ⟨some 5, .mv (.t 18), [], [], none, none⟩])
 (R_c7)) (St.mk s o) Q =
 (callK C I (St.mk (upd s 14 (s 0)) o) (some 15) 74 [(s 0)] (fun r1 or1 =>
demand (extV r1 0) (fun x2 =>
demand (extV r1 1) (fun x3 =>
demand (extV r1 2) (fun x4 =>
wpB C I R_c7 (St.mk (look [(0, (s 0)), (3, x2), (4, x3), (5, x4)]) (looko ([].map fun n => (n, or1 n)))) Q))))) := rfl
theorem g_law07_LexExact_code_sh {R_c8 : ACode} {C : Ctx} {I : Nat → Prop} {s : Nat → V} {o : Nat → Option Ob} {Q : Ex → St → Prop} : wpB C I (.seq (.region [0] (some []) none
    [⟨some 2, .mv (.c (.d (.bool false))), [], [], none, none⟩])
 (.seq (.seq (.region [0, 11] (some []) none
      [⟨some 9, .mv (.t 0), [], [], none, none⟩,
       ⟨some 10, .lenS (.t 9), [], [], none, none⟩,
       ⟨some 11, .bin .gtr (.t 10) (.c (.d (.int .i64 600))), [], [], none, none⟩])
   (.cond (.t 11) (.seq (.region [2] (some []) none
        [⟨some 12, .call 73 [], [], [], none, none⟩,
         ⟨some 2, .mv (.t 12), [], [], none, none⟩])
     (.ret))
    (.skip)))
  (R_c8))) (St.mk s o) Q =
 (demand (lenSV (s 0)) (fun x1 =>
demand (binV BinOp.gtr x1 (V.d (.int .i64 600))) (fun x2 =>
condK x2
 (callK C I (St.mk (look [(0, (s 0)), (11, x2)]) (looko ([].map fun n => (n, o n)))) (some 12) 73 [] (fun r3 or3 =>
Q .ret (St.mk (look [(2, r3)]) (looko ([].map fun n => (n, or3 n))))))
 (wpB C I R_c8 (St.mk (look [(0, (s 0)), (11, x2)]) (looko ([].map fun n => (n, o n)))) Q)))) := rfl
theorem g_law07_LexAgain_o1_sh {C : Ctx} {I : Nat → Prop} {s : Nat → V} {o : Nat → Option Ob} {K : St → Prop} : opsB C I [⟨some 35, .pick (.t 33) (.t 34) (.c (.d (.bool false))), [], [], none, none⟩,
     ⟨some 2, .mv (.t 35), [], [], none, none⟩] (St.mk s o) K =
 (demand (pickV (s 33) (s 34) (V.d (.bool false))) (fun x1 =>
K (St.mk (upd (upd s 35 x1) 2 x1) o))) := rfl
theorem g_law07_LexAgain_o0_sh {R_o1 : List AOper} {C : Ctx} {I : Nat → Prop} {s : Nat → V} {o : Nat → Option Ob} {K : St → Prop} : opsB C I (⟨some 34, .call 73 [], [], [], (some (3, 33, true)), (some ([33, 34], (some [])))⟩ ::
     R_o1) (St.mk s o) K =
 (guardK (s 33) true
 (callK C I (St.mk (upd s 33 (V.d (D.bool true))) o) (some 34) 73 [] (fun r1 or1 =>
opsB C I R_o1 (St.mk (look [(33, (V.d (D.bool true))), (34, r1)]) (looko ([].map fun n => (n, or1 n)))) K))
 (opsB C I R_o1 (St.mk (look [(33, (V.d (D.bool false))), (34, (V.tup []))]) (looko ([].map fun n => (n, o n)))) K)
 (opsB C I R_o1 (St.mk (look [(33, (V.tup [])), (34, (V.tup []))]) (looko ([].map fun n => (n, o n)))) K)) := rfl
theorem g_law07_LexAgain_c0_sh {C : Ctx} {I : Nat → Prop} {s : Nat → V} {o : Nat → Option Ob} {Q : Ex → St → Prop} : wpB C I (.ret) (St.mk s o) Q =
 (Q .ret (St.mk s o)) := rfl
theorem g_law07_LexAgain_c1_sh {C : Ctx} {I : Nat → Prop} {s : Nat → V} {o : Nat → Option Ob} {Q : Ex → St → Prop} : wpB C I (.region [3, 6, 7, 36, 37, 38] (some []) none
   [⟨some 47, .mv (.t 7), [], [], none, none⟩,
    ⟨some 48, .faddr 1 (.t 9), [], [], none, none⟩,
    ⟨some 49, .load none (.t 48), [], [], none, none⟩,
    ⟨some 50, .bin .add (.c (.d (.str [10, 32, 32]))) (.t 49), [], [], none, none⟩,
    ⟨some 51, .bin .add (.t 50) (.c (.d (.str [32, 35, 32, 61, 32, 63, 10]))), [], [], none, none⟩,
    ⟨some 52, .bin .add (.t 47) (.t 51), [], [], none, none⟩,
    ⟨some 7, .mv (.t 52), [], [], none, none⟩]) (St.mk s o) Q =
 (demand (faddrV 1 (s 9)) (fun x1 =>
demand (loadV o none x1) (fun x2 =>
demand (binV BinOp.add (V.d (.str [10, 32, 32])) x2) (fun x3 =>
demand (binV BinOp.add x3 (V.d (.str [32, 35, 32, 61, 32, 63, 10]))) (fun x4 =>
demand (binV BinOp.add (s 7) x4) (fun x5 =>
Q .normal (St.mk (look [(3, (s 3)), (6, (s 6)), (7, x5), (36, (s 36)), (37, (s 37)), (38, (s 38))]) (looko ([].map fun n => (n, o n)))))))))) := rfl
theorem g_law07_LexAgain_c2_sh {R_c1 : ACode} {C : Ctx} {I : Nat → Prop} {s : Nat → V} {o : Nat → Option Ob} {Q : Ex → St → Prop} : wpB C I (.seq (.region [3, 6, 7, 9, 36, 37, 38] (some [9]) none
    [⟨some 42, .mv (.t 6), [], [], none, none⟩,
     ⟨some 43, .faddr 1 (.t 9), [], [], none, none⟩,
     ⟨some 44, .load none (.t 43), [], [], none, none⟩,
     ⟨some 45, .bin .add (.t 44) (.c (.d (.str [32]))), [], [], none, none⟩,
     ⟨some 46, .bin .add (.t 42) (.t 45), [], [], none, none⟩,
     ⟨some 6, .mv (.t 46), [], [], none, none⟩])
 (R_c1)) (St.mk s o) Q =
 (demand (faddrV 1 (s 9)) (fun x1 =>
demand (loadV o none x1) (fun x2 =>
demand (binV BinOp.add x2 (V.d (.str [32]))) (fun x3 =>
demand (binV BinOp.add (s 6) x3) (fun x4 =>
wpB C I R_c1 (St.mk (look [(3, (s 3)), (6, x4), (7, (s 7)), (9, (s 9)), (36, (s 36)), (37, (s 37)), (38, (s 38))]) (looko ([9].map fun n => (n, o n)))) Q))))) := rfl
theorem g_law07_LexAgain_c3_sh {C : Ctx} {I : Nat → Prop} {s : Nat → V} {o : Nat → Option Ob} {Q : Ex → St → Prop} : wpB C I (.region [3, 6, 7, 36, 37, 38] (some []) none
   [⟨some 53, .bin .add (.t 38) (.c (.d (.int .i64 1))), [], [], none, none⟩,
    ⟨some 38, .mv (.t 53), [], [], none, none⟩]) (St.mk s o) Q =
 (demand (binV BinOp.add (s 38) (V.d (.int .i64 1))) (fun x1 =>
Q .normal (St.mk (look [(3, (s 3)), (6, (s 6)), (7, (s 7)), (36, (s 36)), (37, (s 37)), (38, x1)]) (looko ([].map fun n => (n, o n)))))) := rfl
theorem g_law07_LexAgain_l0_sh {R_l0 : ACode} {R_c2 : ACode} {R_c3 : ACode} {C : Ctx} {I : Nat → Prop} {s : Nat → V} {o : Nat → Option Ob} {Q : Ex → St → Prop} (hL : R_l0 = .loop [3, 6, 7, 36, 37, 38] (some []) (.seq (.region [3, 6, 7, 36, 37, 38, 39] (some []) none
     [⟨some 39, .bin .lss (.t 38) (.t 37), [], [], none, none⟩])
  (.seq (.cond (.t 39) (.skip)
    (.exit 0))
   (.seq (.block 1 [3, 6, 7, 36, 37, 38] (some []) (.seq (.region [3, 6, 7, 9, 36, 37, 38] (some [9]) none
         [⟨some 40, .iaddr 3 (.t 36) (.t 38), [], [], none, none⟩,
          ⟨some 41, .load (some 3) (.t 40), [], [], none, none⟩,
          ⟨some 9, .alloc 9 [.d (.int .i64 0), .d (.str []), .d (.int .i64 0)], [], [], none, none⟩,
          ⟨none, .store 3 (.t 9) (.t 41), [], [], none, none⟩])
      (R_c2)))
    (R_c3)))))
 (h : demand (binV BinOp.lss (s 38) (s 37)) (fun x1 =>
condK x1
 (demand (iaddrV (looko ([].map fun n => (n, o n))) 3 (s 36) (s 38)) (fun x2 =>
demand (loadV (looko ([].map fun n => (n, o n))) (some 3) x2) (fun x3 =>
(¬ I 9 ∧ Fresh (St.mk (upd (upd (look [(3, (s 3)), (6, (s 6)), (7, (s 7)), (36, (s 36)), (37, (s 37)), (38, (s 38)), (39, x1)]) 40 x2) 41 x3) (looko ([].map fun n => (n, o n)))) 9 (some 9) ∧ V.refsL 9 [V.d (.int .i64 0), V.d (.str []), V.d (.int .i64 0)] = false ∧
storeK (V.ptr 9 0) (cellsV x3) 3 (upd (looko ([].map fun n => (n, o n))) 9 (some (Ob.box [V.d (.int .i64 0), V.d (.str []), V.d (.int .i64 0)]))) (fun m4 ob5 =>
wpB C I R_c2 (St.mk (look [(3, (s 3)), (6, (s 6)), (7, (s 7)), (9, (V.ptr 9 0)), (36, (s 36)), (37, (s 37)), (38, (s 38))]) (looko ([9].map fun n => (n, (upd (upd (looko ([].map fun n => (n, o n))) 9 (some (Ob.box [V.d (.int .i64 0), V.d (.str []), V.d (.int .i64 0)]))) m4 (some ob5)) n)))) (blockK 1 [3, 6, 7, 36, 37, 38] (some []) (seqK (fun st => wpB C I R_c3 st (seqK (fun s => wpB C I R_l0 s Q) Q)) (seqK (fun s => wpB C I R_l0 s Q) Q))))))))
 (Q (.exit 0) (St.mk (look [(3, (s 3)), (6, (s 6)), (7, (s 7)), (36, (s 36)), (37, (s 37)), (38, (s 38)), (39, x1)]) (looko ([].map fun n => (n, o n))))))) : wpB C I R_l0 (St.mk s o) Q := w_loopC hL h
theorem g_law07_LexAgain_o7_sh {C : Ctx} {I : Nat → Prop} {s : Nat → V} {o : Nat → Option Ob} {K : St → Prop} : opsB C I [⟨some 85, .pick (.t 82) (.c (.d (.bool true))) (.t 84), [], [], none, none⟩] (St.mk s o) K =
 (demand (pickV (s 82) (V.d (.bool true)) (s 84)) (fun x1 =>
K (St.mk (upd s 85 x1) o))) := rfl
theorem g_law07_LexAgain_o6_sh {R_o7 : List AOper} {C : Ctx} {I : Nat → Prop} {s : Nat → V} {o : Nat → Option Ob} {K : St → Prop} : opsB C I (⟨some 83, .mv (.t 15), [], [], (some (16, 82, false)), none⟩ ::
     ⟨some 84, .bin .neq (.t 83) (.c (.d (.int .i64 0))), [], [], (some (16, 82, false)), (some ([3, 10, 13, 82, 84], (some [])))⟩ ::
     R_o7) (St.mk s o) K =
 (guardK (s 82) false
 (demand (binV BinOp.neq (s 15) (V.d (.int .i64 0))) (fun x1 =>
opsB C I R_o7 (St.mk (look [(3, (s 3)), (10, (s 10)), (13, (s 13)), (82, (V.d (D.bool false))), (84, x1)]) (looko ([].map fun n => (n, o n)))) K))
 (opsB C I R_o7 (St.mk (look [(3, (s 3)), (10, (s 10)), (13, (s 13)), (82, (V.d (D.bool true))), (84, (V.tup []))]) (looko ([].map fun n => (n, o n)))) K)
 (opsB C I R_o7 (St.mk (look [(3, (s 3)), (10, (s 10)), (13, (s 13)), (82, (V.tup [])), (84, (V.tup []))]) (looko ([].map fun n => (n, o n)))) K)) := rfl
theorem g_law07_LexAgain_o5_sh {R_o6 : List AOper} {C : Ctx} {I : Nat → Prop} {s : Nat → V} {o : Nat → Option Ob} {K : St → Prop} : opsB C I (⟨some 81, .pick (.t 78) (.c (.d (.bool true))) (.t 80), [], [], none, none⟩ ::
     ⟨some 82, .mv (.t 81), [], [], none, (some ([3, 10, 13, 15, 82], (some [])))⟩ ::
     R_o6) (St.mk s o) K =
 (demand (pickV (s 78) (V.d (.bool true)) (s 80)) (fun x1 =>
opsB C I R_o6 (St.mk (look [(3, (s 3)), (10, (s 10)), (13, (s 13)), (15, (s 15)), (82, x1)]) (looko ([].map fun n => (n, o n)))) K)) := rfl
theorem g_law07_LexAgain_o4_sh {R_o5 : List AOper} {C : Ctx} {I : Nat → Prop} {s : Nat → V} {o : Nat → Option Ob} {K : St → Prop} : opsB C I (⟨some 79, .mv (.t 12), [], [], (some (12, 78, false)), none⟩ ::
     ⟨some 80, .bin .neq (.t 79) (.c (.d (.int .i64 0))), [], [], (some (12, 78, false)), (some ([3, 10, 13, 15, 78, 80], (some [])))⟩ ::
     R_o5) (St.mk s o) K =
 (guardK (s 78) false
 (demand (binV BinOp.neq (s 12) (V.d (.int .i64 0))) (fun x1 =>
opsB C I R_o5 (St.mk (look [(3, (s 3)), (10, (s 10)), (13, (s 13)), (15, (s 15)), (78, (V.d (D.bool false))), (80, x1)]) (looko ([].map fun n => (n, o n)))) K))
 (opsB C I R_o5 (St.mk (look [(3, (s 3)), (10, (s 10)), (13, (s 13)), (15, (s 15)), (78, (V.d (D.bool true))), (80, (V.tup []))]) (looko ([].map fun n => (n, o n)))) K)
 (opsB C I R_o5 (St.mk (look [(3, (s 3)), (10, (s 10)), (13, (s 13)), (15, (s 15)), (78, (V.tup [])), (80, (V.tup []))]) (looko ([].map fun n => (n, o n)))) K)) := rfl
theorem g_law07_LexAgain_o3_sh {R_o4 : List AOper} {C : Ctx} {I : Nat → Prop} {s : Nat → V} {o : Nat → Option Ob} {K : St → Prop} : opsB C I (⟨some 77, .pick (.t 71) (.c (.d (.bool true))) (.t 76), [], [], none, none⟩ ::
     ⟨some 78, .mv (.t 77), [], [], none, (some ([3, 10, 12, 13, 15, 78], (some [])))⟩ ::
     R_o4) (St.mk s o) K =
 (demand (pickV (s 71) (V.d (.bool true)) (s 76)) (fun x1 =>
opsB C I R_o4 (St.mk (look [(3, (s 3)), (10, (s 10)), (12, (s 12)), (13, (s 13)), (15, (s 15)), (78, x1)]) (looko ([].map fun n => (n, o n)))) K)) := rfl
theorem g_law07_LexAgain_o2_sh {R_o3 : List AOper} {C : Ctx} {I : Nat → Prop} {s : Nat → V} {o : Nat → Option Ob} {K : St → Prop} : opsB C I (⟨some 72, .mv (.t 13), [], [], (some (5, 71, false)), none⟩ ::
     ⟨some 73, .len (.t 72), [], [], (some (5, 71, false)), none⟩ ::
     ⟨some 74, .mv (.t 3), [], [], (some (5, 71, false)), none⟩ ::
     ⟨some 75, .len (.t 74), [], [], (some (5, 71, false)), none⟩ ::
     ⟨some 76, .bin .neq (.t 73) (.t 75), [], [], (some (5, 71, false)), (some ([3, 10, 12, 13, 15, 71, 76], (some [])))⟩ ::
     R_o3) (St.mk s o) K =
 (guardK (s 71) false
 (demand (lenV o (s 13)) (fun x1 =>
demand (lenV o (s 3)) (fun x2 =>
demand (binV BinOp.neq x1 x2) (fun x3 =>
opsB C I R_o3 (St.mk (look [(3, (s 3)), (10, (s 10)), (12, (s 12)), (13, (s 13)), (15, (s 15)), (71, (V.d (D.bool false))), (76, x3)]) (looko ([].map fun n => (n, o n)))) K))))
 (opsB C I R_o3 (St.mk (look [(3, (s 3)), (10, (s 10)), (12, (s 12)), (13, (s 13)), (15, (s 15)), (71, (V.d (D.bool true))), (76, (V.tup []))]) (looko ([].map fun n => (n, o n)))) K)
 (opsB C I R_o3 (St.mk (look [(3, (s 3)), (10, (s 10)), (12, (s 12)), (13, (s 13)), (15, (s 15)), (71, (V.tup [])), (76, (V.tup []))]) (looko ([].map fun n => (n, o n)))) K)) := rfl
theorem g_law07_LexAgain_c4_sh {C : Ctx} {I : Nat → Prop} {s : Nat → V} {o : Nat → Option Ob} {Q : Ex → St → Prop} : wpB C I (.cond (.t 85) (.seq (.region [2] (some []) none
     [⟨some 2, .mv (.c (.d (.bool false))), [], [], none, none⟩])
  (.ret))
 (.skip)) (St.mk s o) Q =
 (condK (s 85)
 (Q .ret (St.mk (look [(2, (V.d (.bool false)))]) (looko ([].map fun n => (n, o n)))))
 (Q .normal (St.mk s o))) := rfl
theorem g_law07_LexAgain_i45_sh {C : Ctx} {I : Nat → Prop} {s : Nat → V} {o : Nat → Option Ob} {K : St → Prop} : drawB C I g_law07_LexAgain.a8 (37 :: []) .done (St.mk s o) K =
 ((s 130) = V.undef ∧ (demand (pickV (s 121) (V.d (.bool true)) (s 129)) (fun x1 => quietV o (x1 :: [(s 121), (V.d (.bool true)), (s 129)]) ∧
treeB C I g_law07_LexAgain.a8 .done (St.mk (upd s 130 x1) o) K))) := rfl
theorem g_law07_LexAgain_i44_sh {R_i45 : List Nat} {C : Ctx} {I : Nat → Prop} {s : Nat → V} {o : Nat → Option Ob} {K : St → Prop} : drawB C I g_law07_LexAgain.a8 (36 :: R_i45) .done (St.mk s o) K =
 ((s 129) = V.undef ∧ guardK (s 121) false
 (demand (binV BinOp.neq (s 126) (s 128)) (fun x1 => quietV o (x1 :: [(s 126), (s 128)]) ∧
drawB C I g_law07_LexAgain.a8 R_i45 .done (St.mk (upd s 129 x1) o) K))
 (quietV o ((V.tup []) :: [(s 126), (s 128)]) ∧
drawB C I g_law07_LexAgain.a8 R_i45 .done (St.mk (upd s 129 (V.tup [])) o) K)
 (quietV o ((V.tup []) :: [(s 126), (s 128)]) ∧
drawB C I g_law07_LexAgain.a8 R_i45 .done (St.mk (upd s 129 (V.tup [])) o) K)) := rfl
theorem g_law07_LexAgain_i43_sh {R_i44 : List Nat} {C : Ctx} {I : Nat → Prop} {s : Nat → V} {o : Nat → Option Ob} {K : St → Prop} : drawB C I g_law07_LexAgain.a8 (35 :: R_i44) .done (St.mk s o) K =
 ((s 128) = V.undef ∧ guardK (s 121) false
 (demand (loadV o none (s 127)) (fun x1 => quietV o (x1 :: [(s 127)]) ∧
drawB C I g_law07_LexAgain.a8 R_i44 .done (St.mk (upd s 128 x1) o) K))
 (quietV o ((V.tup []) :: [(s 127)]) ∧
drawB C I g_law07_LexAgain.a8 R_i44 .done (St.mk (upd s 128 (V.tup [])) o) K)
 (quietV o ((V.tup []) :: [(s 127)]) ∧
drawB C I g_law07_LexAgain.a8 R_i44 .done (St.mk (upd s 128 (V.tup [])) o) K)) := rfl
theorem g_law07_LexAgain_i42_sh {R_i43 : List Nat} {C : Ctx} {I : Nat → Prop} {s : Nat → V} {o : Nat → Option Ob} {K : St → Prop} : drawB C I g_law07_LexAgain.a8 (34 :: R_i43) .done (St.mk s o) K =
 ((s 127) = V.undef ∧ guardK (s 121) false
 (demand (faddrV 1 (s 17)) (fun x1 => quietV o (x1 :: [(s 17)]) ∧
drawB C I g_law07_LexAgain.a8 R_i43 .done (St.mk (upd s 127 x1) o) K))
 (quietV o ((V.tup []) :: [(s 17)]) ∧
drawB C I g_law07_LexAgain.a8 R_i43 .done (St.mk (upd s 127 (V.tup [])) o) K)
 (quietV o ((V.tup []) :: [(s 17)]) ∧
drawB C I g_law07_LexAgain.a8 R_i43 .done (St.mk (upd s 127 (V.tup [])) o) K)) := rfl
theorem g_law07_LexAgain_i41_sh {R_i42 : List Nat} {C : Ctx} {I : Nat → Prop} {s : Nat → V} {o : Nat → Option Ob} {K : St → Prop} : drawB C I g_law07_LexAgain.a8 (33 :: R_i42) .done (St.mk s o) K =
 ((s 126) = V.undef ∧ guardK (s 121) false
 (demand (loadV o none (s 125)) (fun x1 => quietV o (x1 :: [(s 125)]) ∧
drawB C I g_law07_LexAgain.a8 R_i42 .done (St.mk (upd s 126 x1) o) K))
 (quietV o ((V.tup []) :: [(s 125)]) ∧
drawB C I g_law07_LexAgain.a8 R_i42 .done (St.mk (upd s 126 (V.tup [])) o) K)
 (quietV o ((V.tup []) :: [(s 125)]) ∧
drawB C I g_law07_LexAgain.a8 R_i42 .done (St.mk (upd s 126 (V.tup [])) o) K)) := rfl
theorem g_law07_LexAgain_i40_sh {R_i41 : List Nat} {C : Ctx} {I : Nat → Prop} {s : Nat → V} {o : Nat → Option Ob} {K : St → Prop} : drawB C I g_law07_LexAgain.a8 (32 :: R_i41) .done (St.mk s o) K =
 ((s 125) = V.undef ∧ guardK (s 121) false
 (demand (faddrV 1 (s 124)) (fun x1 => quietV o (x1 :: [(s 124)]) ∧
drawB C I g_law07_LexAgain.a8 R_i41 .done (St.mk (upd s 125 x1) o) K))
 (quietV o ((V.tup []) :: [(s 124)]) ∧
drawB C I g_law07_LexAgain.a8 R_i41 .done (St.mk (upd s 125 (V.tup [])) o) K)
 (quietV o ((V.tup []) :: [(s 124)]) ∧
drawB C I g_law07_LexAgain.a8 R_i41 .done (St.mk (upd s 125 (V.tup [])) o) K)) := rfl
theorem g_law07_LexAgain_i39_sh {R_i40 : List Nat} {C : Ctx} {I : Nat → Prop} {s : Nat → V} {o : Nat → Option Ob} {K : St → Prop} : drawB C I g_law07_LexAgain.a8 (31 :: R_i40) .done (St.mk s o) K =
 ((s 124) = V.undef ∧ guardK (s 121) false
 (demand (iaddrV o 3 (s 122) (s 123)) (fun x1 => quietV o (x1 :: [(s 122), (s 123)]) ∧
drawB C I g_law07_LexAgain.a8 R_i40 .done (St.mk (upd s 124 x1) o) K))
 (quietV o ((V.tup []) :: [(s 122), (s 123)]) ∧
drawB C I g_law07_LexAgain.a8 R_i40 .done (St.mk (upd s 124 (V.tup [])) o) K)
 (quietV o ((V.tup []) :: [(s 122), (s 123)]) ∧
drawB C I g_law07_LexAgain.a8 R_i40 .done (St.mk (upd s 124 (V.tup [])) o) K)) := rfl
theorem g_law07_LexAgain_i38_sh {R_i39 : List Nat} {C : Ctx} {I : Nat → Prop} {s : Nat → V} {o : Nat → Option Ob} {K : St → Prop} : drawB C I g_law07_LexAgain.a8 (30 :: R_i39) .done (St.mk s o) K =
 ((s 123) = V.undef ∧ guardK (s 121) false
 (quietV o ((s 16) :: [(s 16)]) ∧
drawB C I g_law07_LexAgain.a8 R_i39 .done (St.mk (upd s 123 (s 16)) o) K)
 (quietV o ((V.tup []) :: [(s 16)]) ∧
drawB C I g_law07_LexAgain.a8 R_i39 .done (St.mk (upd s 123 (V.tup [])) o) K)
 (quietV o ((V.tup []) :: [(s 16)]) ∧
drawB C I g_law07_LexAgain.a8 R_i39 .done (St.mk (upd s 123 (V.tup [])) o) K)) := rfl
theorem g_law07_LexAgain_i37_sh {R_i38 : List Nat} {C : Ctx} {I : Nat → Prop} {s : Nat → V} {o : Nat → Option Ob} {K : St → Prop} : drawB C I g_law07_LexAgain.a8 (29 :: R_i38) .done (St.mk s o) K =
 ((s 122) = V.undef ∧ guardK (s 121) false
 (quietV o ((s 13) :: [(s 13)]) ∧
drawB C I g_law07_LexAgain.a8 R_i38 .done (St.mk (upd s 122 (s 13)) o) K)
 (quietV o ((V.tup []) :: [(s 13)]) ∧
drawB C I g_law07_LexAgain.a8 R_i38 .done (St.mk (upd s 122 (V.tup [])) o) K)
 (quietV o ((V.tup []) :: [(s 13)]) ∧
drawB C I g_law07_LexAgain.a8 R_i38 .done (St.mk (upd s 122 (V.tup [])) o) K)) := rfl
theorem g_law07_LexAgain_i36_sh {R_i37 : List Nat} {C : Ctx} {I : Nat → Prop} {s : Nat → V} {o : Nat → Option Ob} {K : St → Prop} : drawB C I g_law07_LexAgain.a8 (28 :: R_i37) .done (St.mk s o) K =
 ((s 121) = V.undef ∧ (quietV o ((s 120) :: [(s 120)]) ∧
drawB C I g_law07_LexAgain.a8 R_i37 .done (St.mk (upd s 121 (s 120)) o) K)) := rfl
theorem g_law07_LexAgain_i35_sh {R_i36 : List Nat} {C : Ctx} {I : Nat → Prop} {s : Nat → V} {o : Nat → Option Ob} {K : St → Prop} : drawB C I g_law07_LexAgain.a8 (27 :: R_i36) .done (St.mk s o) K =
 ((s 120) = V.undef ∧ (demand (pickV (s 111) (V.d (.bool true)) (s 119)) (fun x1 => quietV o (x1 :: [(s 111), (V.d (.bool true)), (s 119)]) ∧
drawB C I g_law07_LexAgain.a8 R_i36 .done (St.mk (upd s 120 x1) o) K))) := rfl
theorem g_law07_LexAgain_i34_sh {R_i35 : List Nat} {C : Ctx} {I : Nat → Prop} {s : Nat → V} {o : Nat → Option Ob} {K : St → Prop} : drawB C I g_law07_LexAgain.a8 (26 :: R_i35) .done (St.mk s o) K =
 ((s 119) = V.undef ∧ guardK (s 111) false
 (demand (binV BinOp.neq (s 116) (s 118)) (fun x1 => quietV o (x1 :: [(s 116), (s 118)]) ∧
drawB C I g_law07_LexAgain.a8 R_i35 .done (St.mk (upd s 119 x1) o) K))
 (quietV o ((V.tup []) :: [(s 116), (s 118)]) ∧
drawB C I g_law07_LexAgain.a8 R_i35 .done (St.mk (upd s 119 (V.tup [])) o) K)
 (quietV o ((V.tup []) :: [(s 116), (s 118)]) ∧
drawB C I g_law07_LexAgain.a8 R_i35 .done (St.mk (upd s 119 (V.tup [])) o) K)) := rfl
theorem g_law07_LexAgain_i33_sh {R_i34 : List Nat} {C : Ctx} {I : Nat → Prop} {s : Nat → V} {o : Nat → Option Ob} {K : St → Prop} : drawB C I g_law07_LexAgain.a8 (25 :: R_i34) .done (St.mk s o) K =
 ((s 118) = V.undef ∧ guardK (s 111) false
 (demand (loadV o none (s 117)) (fun x1 => quietV o (x1 :: [(s 117)]) ∧
drawB C I g_law07_LexAgain.a8 R_i34 .done (St.mk (upd s 118 x1) o) K))
 (quietV o ((V.tup []) :: [(s 117)]) ∧
drawB C I g_law07_LexAgain.a8 R_i34 .done (St.mk (upd s 118 (V.tup [])) o) K)
 (quietV o ((V.tup []) :: [(s 117)]) ∧
drawB C I g_law07_LexAgain.a8 R_i34 .done (St.mk (upd s 118 (V.tup [])) o) K)) := rfl
theorem g_law07_LexAgain_i32_sh {R_i33 : List Nat} {C : Ctx} {I : Nat → Prop} {s : Nat → V} {o : Nat → Option Ob} {K : St → Prop} : drawB C I g_law07_LexAgain.a8 (24 :: R_i33) .done (St.mk s o) K =
 ((s 117) = V.undef ∧ guardK (s 111) false
 (demand (faddrV 0 (s 17)) (fun x1 => quietV o (x1 :: [(s 17)]) ∧
drawB C I g_law07_LexAgain.a8 R_i33 .done (St.mk (upd s 117 x1) o) K))
 (quietV o ((V.tup []) :: [(s 17)]) ∧
drawB C I g_law07_LexAgain.a8 R_i33 .done (St.mk (upd s 117 (V.tup [])) o) K)
 (quietV o ((V.tup []) :: [(s 17)]) ∧
drawB C I g_law07_LexAgain.a8 R_i33 .done (St.mk (upd s 117 (V.tup [])) o) K)) := rfl
theorem g_law07_LexAgain_i31_sh {R_i32 : List Nat} {C : Ctx} {I : Nat → Prop} {s : Nat → V} {o : Nat → Option Ob} {K : St → Prop} : drawB C I g_law07_LexAgain.a8 (23 :: R_i32) .done (St.mk s o) K =
 ((s 116) = V.undef ∧ guardK (s 111) false
 (demand (loadV o none (s 115)) (fun x1 => quietV o (x1 :: [(s 115)]) ∧
drawB C I g_law07_LexAgain.a8 R_i32 .done (St.mk (upd s 116 x1) o) K))
 (quietV o ((V.tup []) :: [(s 115)]) ∧
drawB C I g_law07_LexAgain.a8 R_i32 .done (St.mk (upd s 116 (V.tup [])) o) K)
 (quietV o ((V.tup []) :: [(s 115)]) ∧
drawB C I g_law07_LexAgain.a8 R_i32 .done (St.mk (upd s 116 (V.tup [])) o) K)) := rfl
theorem g_law07_LexAgain_i30_sh {R_i31 : List Nat} {C : Ctx} {I : Nat → Prop} {s : Nat → V} {o : Nat → Option Ob} {K : St → Prop} : drawB C I g_law07_LexAgain.a8 (22 :: R_i31) .done (St.mk s o) K =
 ((s 115) = V.undef ∧ guardK (s 111) false
 (demand (faddrV 0 (s 114)) (fun x1 => quietV o (x1 :: [(s 114)]) ∧
drawB C I g_law07_LexAgain.a8 R_i31 .done (St.mk (upd s 115 x1) o) K))
 (quietV o ((V.tup []) :: [(s 114)]) ∧
drawB C I g_law07_LexAgain.a8 R_i31 .done (St.mk (upd s 115 (V.tup [])) o) K)
 (quietV o ((V.tup []) :: [(s 114)]) ∧
drawB C I g_law07_LexAgain.a8 R_i31 .done (St.mk (upd s 115 (V.tup [])) o) K)) := rfl
theorem g_law07_LexAgain_i29_sh {R_i30 : List Nat} {C : Ctx} {I : Nat → Prop} {s : Nat → V} {o : Nat → Option Ob} {K : St → Prop} : drawB C I g_law07_LexAgain.a8 (21 :: R_i30) .done (St.mk s o) K =
 ((s 114) = V.undef ∧ guardK (s 111) false
 (demand (iaddrV o 3 (s 112) (s 113)) (fun x1 => quietV o (x1 :: [(s 112), (s 113)]) ∧
drawB C I g_law07_LexAgain.a8 R_i30 .done (St.mk (upd s 114 x1) o) K))
 (quietV o ((V.tup []) :: [(s 112), (s 113)]) ∧
drawB C I g_law07_LexAgain.a8 R_i30 .done (St.mk (upd s 114 (V.tup [])) o) K)
 (quietV o ((V.tup []) :: [(s 112), (s 113)]) ∧
drawB C I g_law07_LexAgain.a8 R_i30 .done (St.mk (upd s 114 (V.tup [])) o) K)) := rfl
theorem g_law07_LexAgain_i28_sh {R_i29 : List Nat} {C : Ctx} {I : Nat → Prop} {s : Nat → V} {o : Nat → Option Ob} {K : St → Prop} : drawB C I g_law07_LexAgain.a8 (20 :: R_i29) .done (St.mk s o) K =
 ((s 113) = V.undef ∧ guardK (s 111) false
 (quietV o ((s 16) :: [(s 16)]) ∧
drawB C I g_law07_LexAgain.a8 R_i29 .done (St.mk (upd s 113 (s 16)) o) K)
 (quietV o ((V.tup []) :: [(s 16)]) ∧
drawB C I g_law07_LexAgain.a8 R_i29 .done (St.mk (upd s 113 (V.tup [])) o) K)
 (quietV o ((V.tup []) :: [(s 16)]) ∧
drawB C I g_law07_LexAgain.a8 R_i29 .done (St.mk (upd s 113 (V.tup [])) o) K)) := rfl
theorem g_law07_LexAgain_i27_sh {R_i28 : List Nat} {C : Ctx} {I : Nat → Prop} {s : Nat → V} {o : Nat → Option Ob} {K : St → Prop} : drawB C I g_law07_LexAgain.a8 (19 :: R_i28) .done (St.mk s o) K =
 ((s 112) = V.undef ∧ guardK (s 111) false
 (quietV o ((s 13) :: [(s 13)]) ∧
drawB C I g_law07_LexAgain.a8 R_i28 .done (St.mk (upd s 112 (s 13)) o) K)
 (quietV o ((V.tup []) :: [(s 13)]) ∧
drawB C I g_law07_LexAgain.a8 R_i28 .done (St.mk (upd s 112 (V.tup [])) o) K)
 (quietV o ((V.tup []) :: [(s 13)]) ∧
drawB C I g_law07_LexAgain.a8 R_i28 .done (St.mk (upd s 112 (V.tup [])) o) K)) := rfl
theorem g_law07_LexAgain_i26_sh {R_i27 : List Nat} {C : Ctx} {I : Nat → Prop} {s : Nat → V} {o : Nat → Option Ob} {K : St → Prop} : drawB C I g_law07_LexAgain.a8 (18 :: R_i27) .done (St.mk s o) K =
 ((s 111) = V.undef ∧ (quietV o ((s 110) :: [(s 110)]) ∧
drawB C I g_law07_LexAgain.a8 R_i27 .done (St.mk (upd s 111 (s 110)) o) K)) := rfl
theorem g_law07_LexAgain_i25_sh {R_i26 : List Nat} {C : Ctx} {I : Nat → Prop} {s : Nat → V} {o : Nat → Option Ob} {K : St → Prop} : drawB C I g_law07_LexAgain.a8 (17 :: R_i26) .done (St.mk s o) K =
 ((s 110) = V.undef ∧ (demand (pickV (s 101) (V.d (.bool true)) (s 109)) (fun x1 => quietV o (x1 :: [(s 101), (V.d (.bool true)), (s 109)]) ∧
drawB C I g_law07_LexAgain.a8 R_i26 .done (St.mk (upd s 110 x1) o) K))) := rfl
theorem g_law07_LexAgain_i24_sh {R_i25 : List Nat} {C : Ctx} {I : Nat → Prop} {s : Nat → V} {o : Nat → Option Ob} {K : St → Prop} : drawB C I g_law07_LexAgain.a8 (16 :: R_i25) .done (St.mk s o) K =
 ((s 109) = V.undef ∧ guardK (s 101) false
 (demand (binV BinOp.neq (s 106) (s 108)) (fun x1 => quietV o (x1 :: [(s 106), (s 108)]) ∧
drawB C I g_law07_LexAgain.a8 R_i25 .done (St.mk (upd s 109 x1) o) K))
 (quietV o ((V.tup []) :: [(s 106), (s 108)]) ∧
drawB C I g_law07_LexAgain.a8 R_i25 .done (St.mk (upd s 109 (V.tup [])) o) K)
 (quietV o ((V.tup []) :: [(s 106), (s 108)]) ∧
drawB C I g_law07_LexAgain.a8 R_i25 .done (St.mk (upd s 109 (V.tup [])) o) K)) := rfl
theorem g_law07_LexAgain_i23_sh {R_i24 : List Nat} {C : Ctx} {I : Nat → Prop} {s : Nat → V} {o : Nat → Option Ob} {K : St → Prop} : drawB C I g_law07_LexAgain.a8 (15 :: R_i24) .done (St.mk s o) K =
 ((s 108) = V.undef ∧ guardK (s 101) false
 (demand (loadV o none (s 107)) (fun x1 => quietV o (x1 :: [(s 107)]) ∧
drawB C I g_law07_LexAgain.a8 R_i24 .done (St.mk (upd s 108 x1) o) K))
 (quietV o ((V.tup []) :: [(s 107)]) ∧
drawB C I g_law07_LexAgain.a8 R_i24 .done (St.mk (upd s 108 (V.tup [])) o) K)
 (quietV o ((V.tup []) :: [(s 107)]) ∧
drawB C I g_law07_LexAgain.a8 R_i24 .done (St.mk (upd s 108 (V.tup [])) o) K)) := rfl
theorem g_law07_LexAgain_i22_sh {R_i23 : List Nat} {C : Ctx} {I : Nat → Prop} {s : Nat → V} {o : Nat → Option Ob} {K : St → Prop} : drawB C I g_law07_LexAgain.a8 (14 :: R_i23) .done (St.mk s o) K =
 ((s 107) = V.undef ∧ guardK (s 101) false
 (demand (faddrV 1 (s 17)) (fun x1 => quietV o (x1 :: [(s 17)]) ∧
drawB C I g_law07_LexAgain.a8 R_i23 .done (St.mk (upd s 107 x1) o) K))
 (quietV o ((V.tup []) :: [(s 17)]) ∧
drawB C I g_law07_LexAgain.a8 R_i23 .done (St.mk (upd s 107 (V.tup [])) o) K)
 (quietV o ((V.tup []) :: [(s 17)]) ∧
drawB C I g_law07_LexAgain.a8 R_i23 .done (St.mk (upd s 107 (V.tup [])) o) K)) := rfl
theorem g_law07_LexAgain_i21_sh {R_i22 : List Nat} {C : Ctx} {I : Nat → Prop} {s : Nat → V} {o : Nat → Option Ob} {K : St → Prop} : drawB C I g_law07_LexAgain.a8 (13 :: R_i22) .done (St.mk s o) K =
 ((s 106) = V.undef ∧ guardK (s 101) false
 (demand (loadV o none (s 105)) (fun x1 => quietV o (x1 :: [(s 105)]) ∧
drawB C I g_law07_LexAgain.a8 R_i22 .done (St.mk (upd s 106 x1) o) K))
 (quietV o ((V.tup []) :: [(s 105)]) ∧
drawB C I g_law07_LexAgain.a8 R_i22 .done (St.mk (upd s 106 (V.tup [])) o) K)
 (quietV o ((V.tup []) :: [(s 105)]) ∧
drawB C I g_law07_LexAgain.a8 R_i22 .done (St.mk (upd s 106 (V.tup [])) o) K)) := rfl
theorem g_law07_LexAgain_i20_sh {R_i21 : List Nat} {C : Ctx} {I : Nat → Prop} {s : Nat → V} {o : Nat → Option Ob} {K : St → Prop} : drawB C I g_law07_LexAgain.a8 (12 :: R_i21) .done (St.mk s o) K =
 ((s 105) = V.undef ∧ guardK (s 101) false
 (demand (faddrV 1 (s 104)) (fun x1 => quietV o (x1 :: [(s 104)]) ∧
drawB C I g_law07_LexAgain.a8 R_i21 .done (St.mk (upd s 105 x1) o) K))
 (quietV o ((V.tup []) :: [(s 104)]) ∧
drawB C I g_law07_LexAgain.a8 R_i21 .done (St.mk (upd s 105 (V.tup [])) o) K)
 (quietV o ((V.tup []) :: [(s 104)]) ∧
drawB C I g_law07_LexAgain.a8 R_i21 .done (St.mk (upd s 105 (V.tup [])) o) K)) := rfl
theorem g_law07_LexAgain_i19_sh {R_i20 : List Nat} {C : Ctx} {I : Nat → Prop} {s : Nat → V} {o : Nat → Option Ob} {K : St → Prop} : drawB C I g_law07_LexAgain.a8 (11 :: R_i20) .done (St.mk s o) K =
 ((s 104) = V.undef ∧ guardK (s 101) false
 (demand (iaddrV o 3 (s 102) (s 103)) (fun x1 => quietV o (x1 :: [(s 102), (s 103)]) ∧
drawB C I g_law07_LexAgain.a8 R_i20 .done (St.mk (upd s 104 x1) o) K))
 (quietV o ((V.tup []) :: [(s 102), (s 103)]) ∧
drawB C I g_law07_LexAgain.a8 R_i20 .done (St.mk (upd s 104 (V.tup [])) o) K)
 (quietV o ((V.tup []) :: [(s 102), (s 103)]) ∧
drawB C I g_law07_LexAgain.a8 R_i20 .done (St.mk (upd s 104 (V.tup [])) o) K)) := rfl
theorem g_law07_LexAgain_i18_sh {R_i19 : List Nat} {C : Ctx} {I : Nat → Prop} {s : Nat → V} {o : Nat → Option Ob} {K : St → Prop} : drawB C I g_law07_LexAgain.a8 (10 :: R_i19) .done (St.mk s o) K =
 ((s 103) = V.undef ∧ guardK (s 101) false
 (quietV o ((s 16) :: [(s 16)]) ∧
drawB C I g_law07_LexAgain.a8 R_i19 .done (St.mk (upd s 103 (s 16)) o) K)
 (quietV o ((V.tup []) :: [(s 16)]) ∧
drawB C I g_law07_LexAgain.a8 R_i19 .done (St.mk (upd s 103 (V.tup [])) o) K)
 (quietV o ((V.tup []) :: [(s 16)]) ∧
drawB C I g_law07_LexAgain.a8 R_i19 .done (St.mk (upd s 103 (V.tup [])) o) K)) := rfl
theorem g_law07_LexAgain_i17_sh {R_i18 : List Nat} {C : Ctx} {I : Nat → Prop} {s : Nat → V} {o : Nat → Option Ob} {K : St → Prop} : drawB C I g_law07_LexAgain.a8 (9 :: R_i18) .done (St.mk s o) K =
 ((s 102) = V.undef ∧ guardK (s 101) false
 (quietV o ((s 10) :: [(s 10)]) ∧
drawB C I g_law07_LexAgain.a8 R_i18 .done (St.mk (upd s 102 (s 10)) o) K)
 (quietV o ((V.tup []) :: [(s 10)]) ∧
drawB C I g_law07_LexAgain.a8 R_i18 .done (St.mk (upd s 102 (V.tup [])) o) K)
 (quietV o ((V.tup []) :: [(s 10)]) ∧
drawB C I g_law07_LexAgain.a8 R_i18 .done (St.mk (upd s 102 (V.tup [])) o) K)) := rfl
theorem g_law07_LexAgain_i16_sh {R_i17 : List Nat} {C : Ctx} {I : Nat → Prop} {s : Nat → V} {o : Nat → Option Ob} {K : St → Prop} : drawB C I g_law07_LexAgain.a8 (8 :: R_i17) .done (St.mk s o) K =
 ((s 101) = V.undef ∧ (quietV o ((s 100) :: [(s 100)]) ∧
drawB C I g_law07_LexAgain.a8 R_i17 .done (St.mk (upd s 101 (s 100)) o) K)) := rfl
theorem g_law07_LexAgain_i15_sh {R_i16 : List Nat} {C : Ctx} {I : Nat → Prop} {s : Nat → V} {o : Nat → Option Ob} {K : St → Prop} : drawB C I g_law07_LexAgain.a8 (7 :: R_i16) .done (St.mk s o) K =
 ((s 100) = V.undef ∧ (demand (binV BinOp.neq (s 97) (s 99)) (fun x1 => quietV o (x1 :: [(s 97), (s 99)]) ∧
drawB C I g_law07_LexAgain.a8 R_i16 .done (St.mk (upd s 100 x1) o) K))) := rfl
theorem g_law07_LexAgain_i14_sh {R_i15 : List Nat} {C : Ctx} {I : Nat → Prop} {s : Nat → V} {o : Nat → Option Ob} {K : St → Prop} : drawB C I g_law07_LexAgain.a8 (6 :: R_i15) .done (St.mk s o) K =
 ((s 99) = V.undef ∧ (demand (loadV o none (s 98)) (fun x1 => quietV o (x1 :: [(s 98)]) ∧
drawB C I g_law07_LexAgain.a8 R_i15 .done (St.mk (upd s 99 x1) o) K))) := rfl
theorem g_law07_LexAgain_i13_sh {R_i14 : List Nat} {C : Ctx} {I : Nat → Prop} {s : Nat → V} {o : Nat → Option Ob} {K : St → Prop} : drawB C I g_law07_LexAgain.a8 (5 :: R_i14) .done (St.mk s o) K =
 ((s 98) = V.undef ∧ (demand (faddrV 0 (s 17)) (fun x1 => quietV o (x1 :: [(s 17)]) ∧
drawB C I g_law07_LexAgain.a8 R_i14 .done (St.mk (upd s 98 x1) o) K))) := rfl
theorem g_law07_LexAgain_i12_sh {R_i13 : List Nat} {C : Ctx} {I : Nat → Prop} {s : Nat → V} {o : Nat → Option Ob} {K : St → Prop} : drawB C I g_law07_LexAgain.a8 (4 :: R_i13) .done (St.mk s o) K =
 ((s 97) = V.undef ∧ (demand (loadV o none (s 96)) (fun x1 => quietV o (x1 :: [(s 96)]) ∧
drawB C I g_law07_LexAgain.a8 R_i13 .done (St.mk (upd s 97 x1) o) K))) := rfl
theorem g_law07_LexAgain_i11_sh {R_i12 : List Nat} {C : Ctx} {I : Nat → Prop} {s : Nat → V} {o : Nat → Option Ob} {K : St → Prop} : drawB C I g_law07_LexAgain.a8 (3 :: R_i12) .done (St.mk s o) K =
 ((s 96) = V.undef ∧ (demand (faddrV 0 (s 95)) (fun x1 => quietV o (x1 :: [(s 95)]) ∧
drawB C I g_law07_LexAgain.a8 R_i12 .done (St.mk (upd s 96 x1) o) K))) := rfl
theorem g_law07_LexAgain_i10_sh {R_i11 : List Nat} {C : Ctx} {I : Nat → Prop} {s : Nat → V} {o : Nat → Option Ob} {K : St → Prop} : drawB C I g_law07_LexAgain.a8 (2 :: R_i11) .done (St.mk s o) K =
 ((s 95) = V.undef ∧ (demand (iaddrV o 3 (s 93) (s 94)) (fun x1 => quietV o (x1 :: [(s 93), (s 94)]) ∧
drawB C I g_law07_LexAgain.a8 R_i11 .done (St.mk (upd s 95 x1) o) K))) := rfl
theorem g_law07_LexAgain_i9_sh {R_i10 : List Nat} {C : Ctx} {I : Nat → Prop} {s : Nat → V} {o : Nat → Option Ob} {K : St → Prop} : drawB C I g_law07_LexAgain.a8 (1 :: R_i10) .done (St.mk s o) K =
 ((s 94) = V.undef ∧ (quietV o ((s 16) :: [(s 16)]) ∧
drawB C I g_law07_LexAgain.a8 R_i10 .done (St.mk (upd s 94 (s 16)) o) K)) := rfl
theorem g_law07_LexAgain_c5_sh {C : Ctx} {I : Nat → Prop} {s : Nat → V} {o : Nat → Option Ob} {Q : Ex → St → Prop} : wpB C I (.cond (.t 130) (.seq (.region [2] (some []) none
     [⟨some 2, .mv (.c (.d (.bool false))), [], [], none, none⟩])
  (.ret))
 (.skip)) (St.mk s o) Q =
 (condK (s 130)
 (Q .ret (St.mk (look [(2, (V.d (.bool false)))]) (looko ([].map fun n => (n, o n)))))
 (Q .normal (St.mk s o))) := rfl
theorem g_law07_LexAgain_c6_sh {R_i9 : List Nat} {R_c5 : ACode} {C : Ctx} {I : Nat → Prop} {s : Nat → V} {o : Nat → Option Ob} {Q : Ex → St → Prop} : wpB C I (.seq (.region [10, 13, 86, 87, 88, 130] (some []) (some (0 :: R_i9, .done)) g_law07_LexAgain.a8)
 (R_c5)) (St.mk s o) Q =
 ((s 93) = V.undef ∧ (quietV o ((s 10) :: [(s 10)]) ∧
drawB C I g_law07_LexAgain.a8 R_i9 .done (St.mk (upd s 93 (s 10)) o) (fun st => (seqK (fun st => wpB C I R_c5 st Q) Q) .normal (St.trim st [10, 13, 86, 87, 88, 130] (some []))))) := rfl
theorem g_law07_LexAgain_c7_sh {C : Ctx} {I : Nat → Prop} {s : Nat → V} {o : Nat → Option Ob} {Q : Ex → St → Prop} : wpB C I (.region [10, 13, 86, 87, 88] (some []) none
   [⟨some 131, .bin .add (.t 88) (.c (.d (.int .i64 1))), [], [], none, none⟩,
    ⟨some 88, .mv (.t 131), [], [], none, none⟩]) (St.mk s o) Q =
 (demand (binV BinOp.add (s 88) (V.d (.int .i64 1))) (fun x1 =>
Q .normal (St.mk (look [(10, (s 10)), (13, (s 13)), (86, (s 86)), (87, (s 87)), (88, x1)]) (looko ([].map fun n => (n, o n)))))) := rfl
theorem g_law07_LexAgain_l1_sh {R_l1 : ACode} {R_c6 : ACode} {R_c7 : ACode} {C : Ctx} {I : Nat → Prop} {s : Nat → V} {o : Nat → Option Ob} {Q : Ex → St → Prop} (hL : R_l1 = .loop [10, 13, 86, 87, 88] (some []) (.seq (.region [10, 13, 86, 87, 88, 89] (some []) none
     [⟨some 89, .bin .lss (.t 88) (.t 87), [], [], none, none⟩])
  (.seq (.cond (.t 89) (.skip)
    (.exit 2))
   (.seq (.block 3 [10, 13, 86, 87, 88] (some []) (.seq (.region [10, 13, 16, 17, 86, 87, 88] (some [17]) none
         [⟨some 90, .mv (.t 88), [], [], none, none⟩,
          ⟨some 91, .iaddr 3 (.t 86) (.t 88), [], [], none, none⟩,
          ⟨some 92, .load (some 3) (.t 91), [], [], none, none⟩,
          ⟨some 17, .alloc 17 [.d (.int .i64 0), .d (.str []), .d (.int .i64 0)], [], [], none, none⟩,
          ⟨some 16, .mv (.t 90), [], [], none, none⟩,
          ⟨none, .store 3 (.t 17) (.t 92), [], [], none, none⟩])
      (R_c6)))
    (R_c7)))))
 (h : demand (binV BinOp.lss (s 88) (s 87)) (fun x1 =>
condK x1
 (demand (iaddrV (looko ([].map fun n => (n, o n))) 3 (s 86) (s 88)) (fun x2 =>
demand (loadV (looko ([].map fun n => (n, o n))) (some 3) x2) (fun x3 =>
(¬ I 17 ∧ Fresh (St.mk (upd (upd (upd (look [(10, (s 10)), (13, (s 13)), (86, (s 86)), (87, (s 87)), (88, (s 88)), (89, x1)]) 90 (s 88)) 91 x2) 92 x3) (looko ([].map fun n => (n, o n)))) 17 (some 17) ∧ V.refsL 17 [V.d (.int .i64 0), V.d (.str []), V.d (.int .i64 0)] = false ∧
storeK (V.ptr 17 0) (cellsV x3) 3 (upd (looko ([].map fun n => (n, o n))) 17 (some (Ob.box [V.d (.int .i64 0), V.d (.str []), V.d (.int .i64 0)]))) (fun m4 ob5 =>
wpB C I R_c6 (St.mk (look [(10, (s 10)), (13, (s 13)), (16, (s 88)), (17, (V.ptr 17 0)), (86, (s 86)), (87, (s 87)), (88, (s 88))]) (looko ([17].map fun n => (n, (upd (upd (looko ([].map fun n => (n, o n))) 17 (some (Ob.box [V.d (.int .i64 0), V.d (.str []), V.d (.int .i64 0)]))) m4 (some ob5)) n)))) (blockK 3 [10, 13, 86, 87, 88] (some []) (seqK (fun st => wpB C I R_c7 st (seqK (fun s => wpB C I R_l1 s Q) Q)) (seqK (fun s => wpB C I R_l1 s Q) Q))))))))
 (Q (.exit 2) (St.mk (look [(10, (s 10)), (13, (s 13)), (86, (s 86)), (87, (s 87)), (88, (s 88)), (89, x1)]) (looko ([].map fun n => (n, o n))))))) : wpB C I R_l1 (St.mk s o) Q := w_loopC hL h
theorem g_law07_LexAgain_c8_sh {C : Ctx} {I : Nat → Prop} {s : Nat → V} {o : Nat → Option Ob} {Q : Ex → St → Prop} : wpB C I (.seq (.region [2] (some []) none
    [⟨some 132, .call 73 [], [], [], none, none⟩,
     ⟨some 2, .mv (.t 132), [], [], none, none⟩])
 (.ret)) (St.mk s o) Q =
 (callK C I (St.mk s o) (some 132) 73 [] (fun r1 or1 =>
Q .ret (St.mk (look [(2, r1)]) (looko ([].map fun n => (n, or1 n)))))) := rfl
theorem g_law07_LexAgain_c9_sh {R_l1 : ACode} {R_c8 : ACode} {C : Ctx} {I : Nat → Prop} {s : Nat → V} {o : Nat → Option Ob} {Q : Ex → St → Prop} : wpB C I (.seq (.seq (.region [10, 13, 86, 87, 88] (some []) none
     [⟨some 86, .mv (.t 3), [], [], none, none⟩,
      ⟨some 87, .len (.t 86), [], [], none, none⟩,
      ⟨some 88, .mv (.c (.d (.int .i64 0))), [], [], none, none⟩])
  (.block 2 [] (some []) (R_l1)))
 (R_c8)) (St.mk s o) Q =
 (demand (lenV o (s 3)) (fun x1 =>
wpB C I R_l1 (St.mk (look [(10, (s 10)), (13, (s 13)), (86, (s 3)), (87, x1), (88, (V.d (.int .i64 0)))]) (looko ([].map fun n => (n, o n)))) (blockK 2 [] (some []) (seqK (fun st => wpB C I R_c8 st Q) Q)))) := rfl
theorem g_law07_LexAgain_c10_sh {R_o2 : List AOper} {R_c4 : ACode} {R_c9 : ACode} {C : Ctx} {I : Nat → Prop} {s : Nat → V} {o : Nat → Option Ob} {Q : Ex → St → Prop} : wpB C I (.seq (.seq (.region [3, 10, 13, 85] (some []) none
     (⟨some 66, .mv (.t 10), [], [], none, none⟩ ::
      ⟨some 67, .len (.t 66), [], [], none, none⟩ ::
      ⟨some 68, .mv (.t 3), [], [], none, none⟩ ::
      ⟨some 69, .len (.t 68), [], [], none, none⟩ ::
      ⟨some 70, .bin .neq (.t 67) (.t 69), [], [], none, none⟩ ::
      ⟨some 71, .mv (.t 70), [], [], none, (some ([3, 10, 12, 13, 15, 71], (some [])))⟩ ::
      R_o2))
  (R_c4))
 (R_c9)) (St.mk s o) Q =
 (demand (lenV o (s 10)) (fun x1 =>
demand (lenV o (s 3)) (fun x2 =>
demand (binV BinOp.neq x1 x2) (fun x3 =>
opsB C I R_o2 (St.mk (look [(3, (s 3)), (10, (s 10)), (12, (s 12)), (13, (s 13)), (15, (s 15)), (71, x3)]) (looko ([].map fun n => (n, o n)))) (fun st => (seqK (fun st => wpB C I R_c4 st (seqK (fun st => wpB C I R_c9 st Q) Q)) (seqK (fun st => wpB C I R_c9 st Q) Q)) .normal (St.trim st [3, 10, 13, 85] (some []))))))) := rfl
theorem g_law07_LexAgain_c11_sh {R_c10 : ACode} {C : Ctx} {I : Nat → Prop} {s : Nat → V} {o : Nat → Option Ob} {Q : Ex → St → Prop} : wpB C I (.seq (.region [3, 10, 12, 13, 15] (some []) none
    [⟨some 61, .mv (.t 7), [], [], none, none⟩,
     ⟨some 62, .call 74 [(.t 61)], [], [], none, none⟩,
     ⟨some 60, .mv (.t 62), [], [], none, none⟩,
     ⟨some 63, .ext (.t 60) 0, [], [], none, none⟩,
     ⟨some 64, .ext (.t 60) 1, [], [], none, none⟩,
     ⟨some 65, .ext (.t 60) 2, [], [], none, none⟩,
     ⟨some 13, .mv (.t 63), [], [], none, none⟩,
     ⟨some 14, .mv (.t 64), [], [], none, none⟩,
     ⟨some 15, .mv (.t 65), [], [], none, none⟩])
 (R_c10)) (St.mk s o) Q =
 (callK C I (St.mk (upd s 61 (s 7)) o) (some 62) 74 [(s 7)] (fun r1 or1 =>
demand (extV r1 0) (fun x2 =>
demand (extV r1 1) (fun x3 =>
demand (extV r1 2) (fun x4 =>
wpB C I R_c10 (St.mk (look [(3, (s 3)), (10, (s 10)), (12, (s 12)), (13, x2), (15, x4)]) (looko ([].map fun n => (n, or1 n)))) Q))))) := rfl
theorem g_law07_LexAgain_c12_sh {R_c11 : ACode} {C : Ctx} {I : Nat → Prop} {s : Nat → V} {o : Nat → Option Ob} {Q : Ex → St → Prop} : wpB C I (.seq (.region [3, 7, 10, 12] (some []) none
    [⟨some 55, .mv (.t 6), [], [], none, none⟩,
     ⟨some 56, .call 74 [(.t 55)], [], [], none, none⟩,
     ⟨some 54, .mv (.t 56), [], [], none, none⟩,
     ⟨some 57, .ext (.t 54) 0, [], [], none, none⟩,
     ⟨some 58, .ext (.t 54) 1, [], [], none, none⟩,
     ⟨some 59, .ext (.t 54) 2, [], [], none, none⟩,
     ⟨some 10, .mv (.t 57), [], [], none, none⟩,
     ⟨some 11, .mv (.t 58), [], [], none, none⟩,
     ⟨some 12, .mv (.t 59), [], [], none, none⟩])
 (R_c11)) (St.mk s o) Q =
 (callK C I (St.mk (upd s 55 (s 6)) o) (some 56) 74 [(s 6)] (fun r1 or1 =>
demand (extV r1 0) (fun x2 =>
demand (extV r1 1) (fun x3 =>
demand (extV r1 2) (fun x4 =>
wpB C I R_c11 (St.mk (look [(3, (s 3)), (7, (s 7)), (10, x2), (12, x4)]) (looko ([].map fun n => (n, or1 n)))) Q))))) := rfl
theorem g_law07_LexAgain_c13_sh {R_l0 : ACode} {R_c12 : ACode} {C : Ctx} {I : Nat → Prop} {s : Nat → V} {o : Nat → Option Ob} {Q : Ex → St → Prop} : wpB C I (.seq (.region [3, 6, 7] (some []) none
    [⟨some 6, .mv (.c (.d (.str []))), [], [], none, none⟩,
     ⟨some 7, .mv (.c (.d (.str [35, 32, 97, 108, 108, 10]))), [], [], none, none⟩])
 (.seq (.seq (.region [3, 6, 7, 36, 37, 38] (some []) none
      [⟨some 36, .mv (.t 3), [], [], none, none⟩,
       ⟨some 37, .len (.t 36), [], [], none, none⟩,
       ⟨some 38, .mv (.c (.d (.int .i64 0))), [], [], none, none⟩])
   (.block 0 [3, 6, 7] (some []) (R_l0)))
  (R_c12))) (St.mk s o) Q =
 (demand (lenV (looko ([].map fun n => (n, o n))) (s 3)) (fun x1 =>
wpB C I R_l0 (St.mk (look [(3, (s 3)), (6, (V.d (.str []))), (7, (V.d (.str [35, 32, 97, 108, 108, 10]))), (36, (s 3)), (37, x1), (38, (V.d (.int .i64 0)))]) (looko ([].map fun n => (n, o n)))) (blockK 0 [3, 6, 7] (some []) (seqK (fun st => wpB C I R_c12 st Q) Q)))) := rfl
theorem g_law07_LexAgain_c14_sh {R_o0 : List AOper} {R_c0 : ACode} {R_c13 : ACode} {C : Ctx} {I : Nat → Prop} {s : Nat → V} {o : Nat → Option Ob} {Q : Ex → St → Prop} : wpB C I (.seq (.seq (.region [3, 29] (some []) none
     [⟨some 28, .mv (.t 5), [], [], none, none⟩,
      ⟨some 29, .bin .neq (.t 28) (.c (.d (.int .i64 0))), [], [], none, none⟩])
  (.cond (.t 29) (.seq (.region [2] (some []) none
       (⟨some 30, .mv (.t 3), [], [], none, none⟩ ::
        ⟨some 31, .len (.t 30), [], [], none, none⟩ ::
        ⟨some 32, .bin .eql (.t 31) (.c (.d (.int .i64 0))), [], [], none, none⟩ ::
        ⟨some 33, .mv (.t 32), [], [], none, (some ([33], (some [])))⟩ ::
        R_o0))
    (R_c0))
   (.skip)))
 (R_c13)) (St.mk s o) Q =
 (demand (binV BinOp.neq (s 5) (V.d (.int .i64 0))) (fun x1 =>
condK x1
 (demand (lenV (looko ([].map fun n => (n, o n))) (s 3)) (fun x2 =>
demand (binV BinOp.eql x2 (V.d (.int .i64 0))) (fun x3 =>
opsB C I R_o0 (St.mk (look [(33, x3)]) (looko ([].map fun n => (n, o n)))) (fun st => (seqK (fun st => wpB C I R_c0 st (seqK (fun st => wpB C I R_c13 st Q) Q)) (seqK (fun st => wpB C I R_c13 st Q) Q)) .normal (St.trim st [2] (some []))))))
 (wpB C I R_c13 (St.mk (look [(3, (s 3)), (29, x1)]) (looko ([].map fun n => (n, o n)))) Q))) := rfl
theorem g_law07_LexAgain_c15_sh {R_c14 : ACode} {C : Ctx} {I : Nat → Prop} {s : Nat → V} {o : Nat → Option Ob} {Q : Ex → St → Prop} : wpB C I (.seq (.region [3, 5] (some []) none
    [⟨some 23, .mv (.t 0), [], [], none, none⟩,
     ⟨some 24, .call 74 [(.t 23)], [], [], none, none⟩,
     ⟨some 22, .mv (.t 24), [], [], none, none⟩,
     ⟨some 25, .ext (.t 22) 0, [], [], none, none⟩,
     ⟨some 26, .ext (.t 22) 1, [], [], none, none⟩,
     ⟨some 27, .ext (.t 22) 2, [], [], none, none⟩,
     ⟨some 3, .mv (.t 25), [], [], none, none⟩,
     ⟨some 4, .mv (.t 26), [], [], none, none⟩,
     ⟨some 5, .mv (.t 27), [], [], none, none⟩])
 (R_c14)) (St.mk s o) Q =
 (callK C I (St.mk (upd s 23 (s 0)) o) (some 24) 74 [(s 0)] (fun r1 or1 =>
demand (extV r1 0) (fun x2 =>
demand (extV r1 1) (fun x3 =>
demand (extV r1 2) (fun x4 =>
wpB C I R_c14 (St.mk (look [(3, x2), (5, x4)]) (looko ([].map fun n => (n, or1 n)))) Q))))) := rfl
theorem g_law07_LexAgain_code_sh {R_c15 : ACode} {C : Ctx} {I : Nat → Prop} {s : Nat → V} {o : Nat → Option Ob} {Q : Ex → St → Prop} : wpB C I (.seq (.region [0] (some []) none
    [⟨some 2, .mv (.c (.d (.bool false))), [], [], none, none⟩])
 (.seq (.seq (.region [0, 20] (some []) none
      [⟨some 18, .mv (.t 0), [], [], none, none⟩,
       ⟨some 19, .lenS (.t 18), [], [], none, none⟩,
       ⟨some 20, .bin .gtr (.t 19) (.c (.d (.int .i64 600))), [], [], none, none⟩])
   (.cond (.t 20) (.seq (.region [2] (some []) none
        [⟨some 21, .call 73 [], [], [], none, none⟩,
         ⟨some 2, .mv (.t 21), [], [], none, none⟩])
     (.ret))
    (.skip)))
  (R_c15))) (St.mk s o) Q =
 (demand (lenSV (s 0)) (fun x1 =>
demand (binV BinOp.gtr x1 (V.d (.int .i64 600))) (fun x2 =>
condK x2
 (callK C I (St.mk (look [(0, (s 0)), (20, x2)]) (looko ([].map fun n => (n, o n)))) (some 21) 73 [] (fun r3 or3 =>
Q .ret (St.mk (look [(2, r3)]) (looko ([].map fun n => (n, or3 n))))))
 (wpB C I R_c15 (St.mk (look [(0, (s 0)), (20, x2)]) (looko ([].map fun n => (n, o n)))) Q)))) := rfl
theorem g_law07_LexPlaces_o1_sh {C : Ctx} {I : Nat → Prop} {s : Nat → V} {o : Nat → Option Ob} {K : St → Prop} : opsB C I [⟨some 29, .pick (.t 27) (.t 28) (.c (.d (.bool false))), [], [], none, none⟩,
     ⟨some 2, .mv (.t 29), [], [], none, none⟩] (St.mk s o) K =
 (demand (pickV (s 27) (s 28) (V.d (.bool false))) (fun x1 =>
K (St.mk (upd (upd s 29 x1) 2 x1) o))) := rfl
theorem g_law07_LexPlaces_o0_sh {R_o1 : List AOper} {C : Ctx} {I : Nat → Prop} {s : Nat → V} {o : Nat → Option Ob} {K : St → Prop} : opsB C I (⟨some 28, .call 73 [], [], [], (some (3, 27, true)), (some ([27, 28], (some [])))⟩ ::
     R_o1) (St.mk s o) K =
 (guardK (s 27) true
 (callK C I (St.mk (upd s 27 (V.d (D.bool true))) o) (some 28) 73 [] (fun r1 or1 =>
opsB C I R_o1 (St.mk (look [(27, (V.d (D.bool true))), (28, r1)]) (looko ([].map fun n => (n, or1 n)))) K))
 (opsB C I R_o1 (St.mk (look [(27, (V.d (D.bool false))), (28, (V.tup []))]) (looko ([].map fun n => (n, o n)))) K)
 (opsB C I R_o1 (St.mk (look [(27, (V.tup [])), (28, (V.tup []))]) (looko ([].map fun n => (n, o n)))) K)) := rfl
theorem g_law07_LexPlaces_c0_sh {C : Ctx} {I : Nat → Prop} {s : Nat → V} {o : Nat → Option Ob} {Q : Ex → St → Prop} : wpB C I (.ret) (St.mk s o) Q =
 (Q .ret (St.mk s o)) := rfl
theorem g_law07_LexPlaces_i36_sh {C : Ctx} {I : Nat → Prop} {s : Nat → V} {o : Nat → Option Ob} {K : St → Prop} : drawB C I g_law07_LexPlaces.a2 (34 :: []) .done (St.mk s o) K =
 ((s 70) = V.undef ∧ (demand (pickV (s 56) (V.d (.bool true)) (s 69)) (fun x1 => quietV o (x1 :: [(s 56), (V.d (.bool true)), (s 69)]) ∧
treeB C I g_law07_LexPlaces.a2 .done (St.mk (upd s 70 x1) o) K))) := rfl
theorem g_law07_LexPlaces_i35_sh {R_i36 : List Nat} {C : Ctx} {I : Nat → Prop} {s : Nat → V} {o : Nat → Option Ob} {K : St → Prop} : drawB C I g_law07_LexPlaces.a2 (33 :: R_i36) .done (St.mk s o) K =
 ((s 69) = V.undef ∧ guardK (s 56) false
 (demand (binV BinOp.neq (s 66) (s 68)) (fun x1 => quietV o (x1 :: [(s 66), (s 68)]) ∧
drawB C I g_law07_LexPlaces.a2 R_i36 .done (St.mk (upd s 69 x1) o) K))
 (quietV o ((V.tup []) :: [(s 66), (s 68)]) ∧
drawB C I g_law07_LexPlaces.a2 R_i36 .done (St.mk (upd s 69 (V.tup [])) o) K)
 (quietV o ((V.tup []) :: [(s 66), (s 68)]) ∧
drawB C I g_law07_LexPlaces.a2 R_i36 .done (St.mk (upd s 69 (V.tup [])) o) K)) := rfl
theorem g_law07_LexPlaces_i34_sh {R_i35 : List Nat} {C : Ctx} {I : Nat → Prop} {s : Nat → V} {o : Nat → Option Ob} {K : St → Prop} : drawB C I g_law07_LexPlaces.a2 (32 :: R_i35) .done (St.mk s o) K =
 ((s 68) = V.undef ∧ guardK (s 56) false
 (demand (loadV o none (s 67)) (fun x1 => quietV o (x1 :: [(s 67)]) ∧
drawB C I g_law07_LexPlaces.a2 R_i35 .done (St.mk (upd s 68 x1) o) K))
 (quietV o ((V.tup []) :: [(s 67)]) ∧
drawB C I g_law07_LexPlaces.a2 R_i35 .done (St.mk (upd s 68 (V.tup [])) o) K)
 (quietV o ((V.tup []) :: [(s 67)]) ∧
drawB C I g_law07_LexPlaces.a2 R_i35 .done (St.mk (upd s 68 (V.tup [])) o) K)) := rfl
theorem g_law07_LexPlaces_i33_sh {R_i34 : List Nat} {C : Ctx} {I : Nat → Prop} {s : Nat → V} {o : Nat → Option Ob} {K : St → Prop} : drawB C I g_law07_LexPlaces.a2 (31 :: R_i34) .done (St.mk s o) K =
 ((s 67) = V.undef ∧ guardK (s 56) false
 (demand (faddrV 1 (s 8)) (fun x1 => quietV o (x1 :: [(s 8)]) ∧
drawB C I g_law07_LexPlaces.a2 R_i34 .done (St.mk (upd s 67 x1) o) K))
 (quietV o ((V.tup []) :: [(s 8)]) ∧
drawB C I g_law07_LexPlaces.a2 R_i34 .done (St.mk (upd s 67 (V.tup [])) o) K)
 (quietV o ((V.tup []) :: [(s 8)]) ∧
drawB C I g_law07_LexPlaces.a2 R_i34 .done (St.mk (upd s 67 (V.tup [])) o) K)) := rfl
theorem g_law07_LexPlaces_i32_sh {R_i33 : List Nat} {C : Ctx} {I : Nat → Prop} {s : Nat → V} {o : Nat → Option Ob} {K : St → Prop} : drawB C I g_law07_LexPlaces.a2 (30 :: R_i33) .done (St.mk s o) K =
 ((s 66) = V.undef ∧ guardK (s 56) false
 (demand (slcSV (s 57) (some (s 59)) (some (s 65))) (fun x1 => quietV o (x1 :: [(s 57), (s 59), (s 65)]) ∧
drawB C I g_law07_LexPlaces.a2 R_i33 .done (St.mk (upd s 66 x1) o) K))
 (quietV o ((V.tup []) :: [(s 57), (s 59), (s 65)]) ∧
drawB C I g_law07_LexPlaces.a2 R_i33 .done (St.mk (upd s 66 (V.tup [])) o) K)
 (quietV o ((V.tup []) :: [(s 57), (s 59), (s 65)]) ∧
drawB C I g_law07_LexPlaces.a2 R_i33 .done (St.mk (upd s 66 (V.tup [])) o) K)) := rfl
theorem g_law07_LexPlaces_i31_sh {R_i32 : List Nat} {C : Ctx} {I : Nat → Prop} {s : Nat → V} {o : Nat → Option Ob} {K : St → Prop} : drawB C I g_law07_LexPlaces.a2 (29 :: R_i32) .done (St.mk s o) K =
 ((s 65) = V.undef ∧ guardK (s 56) false
 (demand (binV BinOp.add (s 61) (s 64)) (fun x1 => quietV o (x1 :: [(s 61), (s 64)]) ∧
drawB C I g_law07_LexPlaces.a2 R_i32 .done (St.mk (upd s 65 x1) o) K))
 (quietV o ((V.tup []) :: [(s 61), (s 64)]) ∧
drawB C I g_law07_LexPlaces.a2 R_i32 .done (St.mk (upd s 65 (V.tup [])) o) K)
 (quietV o ((V.tup []) :: [(s 61), (s 64)]) ∧
drawB C I g_law07_LexPlaces.a2 R_i32 .done (St.mk (upd s 65 (V.tup [])) o) K)) := rfl
theorem g_law07_LexPlaces_i30_sh {R_i31 : List Nat} {C : Ctx} {I : Nat → Prop} {s : Nat → V} {o : Nat → Option Ob} {K : St → Prop} : drawB C I g_law07_LexPlaces.a2 (28 :: R_i31) .done (St.mk s o) K =
 ((s 64) = V.undef ∧ guardK (s 56) false
 (demand (lenSV (s 63)) (fun x1 => quietV o (x1 :: [(s 63)]) ∧
drawB C I g_law07_LexPlaces.a2 R_i31 .done (St.mk (upd s 64 x1) o) K))
 (quietV o ((V.tup []) :: [(s 63)]) ∧
drawB C I g_law07_LexPlaces.a2 R_i31 .done (St.mk (upd s 64 (V.tup [])) o) K)
 (quietV o ((V.tup []) :: [(s 63)]) ∧
drawB C I g_law07_LexPlaces.a2 R_i31 .done (St.mk (upd s 64 (V.tup [])) o) K)) := rfl
theorem g_law07_LexPlaces_i29_sh {R_i30 : List Nat} {C : Ctx} {I : Nat → Prop} {s : Nat → V} {o : Nat → Option Ob} {K : St → Prop} : drawB C I g_law07_LexPlaces.a2 (27 :: R_i30) .done (St.mk s o) K =
 ((s 63) = V.undef ∧ guardK (s 56) false
 (demand (loadV o none (s 62)) (fun x1 => quietV o (x1 :: [(s 62)]) ∧
drawB C I g_law07_LexPlaces.a2 R_i30 .done (St.mk (upd s 63 x1) o) K))
 (quietV o ((V.tup []) :: [(s 62)]) ∧
drawB C I g_law07_LexPlaces.a2 R_i30 .done (St.mk (upd s 63 (V.tup [])) o) K)
 (quietV o ((V.tup []) :: [(s 62)]) ∧
drawB C I g_law07_LexPlaces.a2 R_i30 .done (St.mk (upd s 63 (V.tup [])) o) K)) := rfl
theorem g_law07_LexPlaces_i28_sh {R_i29 : List Nat} {C : Ctx} {I : Nat → Prop} {s : Nat → V} {o : Nat → Option Ob} {K : St → Prop} : drawB C I g_law07_LexPlaces.a2 (26 :: R_i29) .done (St.mk s o) K =
 ((s 62) = V.undef ∧ guardK (s 56) false
 (demand (faddrV 1 (s 8)) (fun x1 => quietV o (x1 :: [(s 8)]) ∧
drawB C I g_law07_LexPlaces.a2 R_i29 .done (St.mk (upd s 62 x1) o) K))
 (quietV o ((V.tup []) :: [(s 8)]) ∧
drawB C I g_law07_LexPlaces.a2 R_i29 .done (St.mk (upd s 62 (V.tup [])) o) K)
 (quietV o ((V.tup []) :: [(s 8)]) ∧
drawB C I g_law07_LexPlaces.a2 R_i29 .done (St.mk (upd s 62 (V.tup [])) o) K)) := rfl
theorem g_law07_LexPlaces_i27_sh {R_i28 : List Nat} {C : Ctx} {I : Nat → Prop} {s : Nat → V} {o : Nat → Option Ob} {K : St → Prop} : drawB C I g_law07_LexPlaces.a2 (25 :: R_i28) .done (St.mk s o) K =
 ((s 61) = V.undef ∧ guardK (s 56) false
 (demand (loadV o none (s 60)) (fun x1 => quietV o (x1 :: [(s 60)]) ∧
drawB C I g_law07_LexPlaces.a2 R_i28 .done (St.mk (upd s 61 x1) o) K))
 (quietV o ((V.tup []) :: [(s 60)]) ∧
drawB C I g_law07_LexPlaces.a2 R_i28 .done (St.mk (upd s 61 (V.tup [])) o) K)
 (quietV o ((V.tup []) :: [(s 60)]) ∧
drawB C I g_law07_LexPlaces.a2 R_i28 .done (St.mk (upd s 61 (V.tup [])) o) K)) := rfl
theorem g_law07_LexPlaces_i26_sh {R_i27 : List Nat} {C : Ctx} {I : Nat → Prop} {s : Nat → V} {o : Nat → Option Ob} {K : St → Prop} : drawB C I g_law07_LexPlaces.a2 (24 :: R_i27) .done (St.mk s o) K =
 ((s 60) = V.undef ∧ guardK (s 56) false
 (demand (faddrV 2 (s 8)) (fun x1 => quietV o (x1 :: [(s 8)]) ∧
drawB C I g_law07_LexPlaces.a2 R_i27 .done (St.mk (upd s 60 x1) o) K))
 (quietV o ((V.tup []) :: [(s 8)]) ∧
drawB C I g_law07_LexPlaces.a2 R_i27 .done (St.mk (upd s 60 (V.tup [])) o) K)
 (quietV o ((V.tup []) :: [(s 8)]) ∧
drawB C I g_law07_LexPlaces.a2 R_i27 .done (St.mk (upd s 60 (V.tup [])) o) K)) := rfl
theorem g_law07_LexPlaces_i25_sh {R_i26 : List Nat} {C : Ctx} {I : Nat → Prop} {s : Nat → V} {o : Nat → Option Ob} {K : St → Prop} : drawB C I g_law07_LexPlaces.a2 (23 :: R_i26) .done (St.mk s o) K =
 ((s 59) = V.undef ∧ guardK (s 56) false
 (demand (loadV o none (s 58)) (fun x1 => quietV o (x1 :: [(s 58)]) ∧
drawB C I g_law07_LexPlaces.a2 R_i26 .done (St.mk (upd s 59 x1) o) K))
 (quietV o ((V.tup []) :: [(s 58)]) ∧
drawB C I g_law07_LexPlaces.a2 R_i26 .done (St.mk (upd s 59 (V.tup [])) o) K)
 (quietV o ((V.tup []) :: [(s 58)]) ∧
drawB C I g_law07_LexPlaces.a2 R_i26 .done (St.mk (upd s 59 (V.tup [])) o) K)) := rfl
theorem g_law07_LexPlaces_i24_sh {R_i25 : List Nat} {C : Ctx} {I : Nat → Prop} {s : Nat → V} {o : Nat → Option Ob} {K : St → Prop} : drawB C I g_law07_LexPlaces.a2 (22 :: R_i25) .done (St.mk s o) K =
 ((s 58) = V.undef ∧ guardK (s 56) false
 (demand (faddrV 2 (s 8)) (fun x1 => quietV o (x1 :: [(s 8)]) ∧
drawB C I g_law07_LexPlaces.a2 R_i25 .done (St.mk (upd s 58 x1) o) K))
 (quietV o ((V.tup []) :: [(s 8)]) ∧
drawB C I g_law07_LexPlaces.a2 R_i25 .done (St.mk (upd s 58 (V.tup [])) o) K)
 (quietV o ((V.tup []) :: [(s 8)]) ∧
drawB C I g_law07_LexPlaces.a2 R_i25 .done (St.mk (upd s 58 (V.tup [])) o) K)) := rfl
theorem g_law07_LexPlaces_i23_sh {R_i24 : List Nat} {C : Ctx} {I : Nat → Prop} {s : Nat → V} {o : Nat → Option Ob} {K : St → Prop} : drawB C I g_law07_LexPlaces.a2 (21 :: R_i24) .done (St.mk s o) K =
 ((s 57) = V.undef ∧ guardK (s 56) false
 (quietV o ((s 0) :: [(s 0)]) ∧
drawB C I g_law07_LexPlaces.a2 R_i24 .done (St.mk (upd s 57 (s 0)) o) K)
 (quietV o ((V.tup []) :: [(s 0)]) ∧
drawB C I g_law07_LexPlaces.a2 R_i24 .done (St.mk (upd s 57 (V.tup [])) o) K)
 (quietV o ((V.tup []) :: [(s 0)]) ∧
drawB C I g_law07_LexPlaces.a2 R_i24 .done (St.mk (upd s 57 (V.tup [])) o) K)) := rfl
theorem g_law07_LexPlaces_i22_sh {R_i23 : List Nat} {C : Ctx} {I : Nat → Prop} {s : Nat → V} {o : Nat → Option Ob} {K : St → Prop} : drawB C I g_law07_LexPlaces.a2 (20 :: R_i23) .done (St.mk s o) K =
 ((s 56) = V.undef ∧ (quietV o ((s 55) :: [(s 55)]) ∧
drawB C I g_law07_LexPlaces.a2 R_i23 .done (St.mk (upd s 56 (s 55)) o) K)) := rfl
theorem g_law07_LexPlaces_i21_sh {R_i22 : List Nat} {C : Ctx} {I : Nat → Prop} {s : Nat → V} {o : Nat → Option Ob} {K : St → Prop} : drawB C I g_law07_LexPlaces.a2 (19 :: R_i22) .done (St.mk s o) K =
 ((s 55) = V.undef ∧ (demand (pickV (s 45) (V.d (.bool true)) (s 54)) (fun x1 => quietV o (x1 :: [(s 45), (V.d (.bool true)), (s 54)]) ∧
drawB C I g_law07_LexPlaces.a2 R_i22 .done (St.mk (upd s 55 x1) o) K))) := rfl
theorem g_law07_LexPlaces_i20_sh {R_i21 : List Nat} {C : Ctx} {I : Nat → Prop} {s : Nat → V} {o : Nat → Option Ob} {K : St → Prop} : drawB C I g_law07_LexPlaces.a2 (18 :: R_i21) .done (St.mk s o) K =
 ((s 54) = V.undef ∧ guardK (s 45) false
 (demand (binV BinOp.gtr (s 51) (s 53)) (fun x1 => quietV o (x1 :: [(s 51), (s 53)]) ∧
drawB C I g_law07_LexPlaces.a2 R_i21 .done (St.mk (upd s 54 x1) o) K))
 (quietV o ((V.tup []) :: [(s 51), (s 53)]) ∧
drawB C I g_law07_LexPlaces.a2 R_i21 .done (St.mk (upd s 54 (V.tup [])) o) K)
 (quietV o ((V.tup []) :: [(s 51), (s 53)]) ∧
drawB C I g_law07_LexPlaces.a2 R_i21 .done (St.mk (upd s 54 (V.tup [])) o) K)) := rfl
theorem g_law07_LexPlaces_i19_sh {R_i20 : List Nat} {C : Ctx} {I : Nat → Prop} {s : Nat → V} {o : Nat → Option Ob} {K : St → Prop} : drawB C I g_law07_LexPlaces.a2 (17 :: R_i20) .done (St.mk s o) K =
 ((s 53) = V.undef ∧ guardK (s 45) false
 (demand (lenSV (s 52)) (fun x1 => quietV o (x1 :: [(s 52)]) ∧
drawB C I g_law07_LexPlaces.a2 R_i20 .done (St.mk (upd s 53 x1) o) K))
 (quietV o ((V.tup []) :: [(s 52)]) ∧
drawB C I g_law07_LexPlaces.a2 R_i20 .done (St.mk (upd s 53 (V.tup [])) o) K)
 (quietV o ((V.tup []) :: [(s 52)]) ∧
drawB C I g_law07_LexPlaces.a2 R_i20 .done (St.mk (upd s 53 (V.tup [])) o) K)) := rfl
theorem g_law07_LexPlaces_i18_sh {R_i19 : List Nat} {C : Ctx} {I : Nat → Prop} {s : Nat → V} {o : Nat → Option Ob} {K : St → Prop} : drawB C I g_law07_LexPlaces.a2 (16 :: R_i19) .done (St.mk s o) K =
 ((s 52) = V.undef ∧ guardK (s 45) false
 (quietV o ((s 0) :: [(s 0)]) ∧
drawB C I g_law07_LexPlaces.a2 R_i19 .done (St.mk (upd s 52 (s 0)) o) K)
 (quietV o ((V.tup []) :: [(s 0)]) ∧
drawB C I g_law07_LexPlaces.a2 R_i19 .done (St.mk (upd s 52 (V.tup [])) o) K)
 (quietV o ((V.tup []) :: [(s 0)]) ∧
drawB C I g_law07_LexPlaces.a2 R_i19 .done (St.mk (upd s 52 (V.tup [])) o) K)) := rfl
theorem g_law07_LexPlaces_i17_sh {R_i18 : List Nat} {C : Ctx} {I : Nat → Prop} {s : Nat → V} {o : Nat → Option Ob} {K : St → Prop} : drawB C I g_law07_LexPlaces.a2 (15 :: R_i18) .done (St.mk s o) K =
 ((s 51) = V.undef ∧ guardK (s 45) false
 (demand (binV BinOp.add (s 47) (s 50)) (fun x1 => quietV o (x1 :: [(s 47), (s 50)]) ∧
drawB C I g_law07_LexPlaces.a2 R_i18 .done (St.mk (upd s 51 x1) o) K))
 (quietV o ((V.tup []) :: [(s 47), (s 50)]) ∧
drawB C I g_law07_LexPlaces.a2 R_i18 .done (St.mk (upd s 51 (V.tup [])) o) K)
 (quietV o ((V.tup []) :: [(s 47), (s 50)]) ∧
drawB C I g_law07_LexPlaces.a2 R_i18 .done (St.mk (upd s 51 (V.tup [])) o) K)) := rfl
theorem g_law07_LexPlaces_i16_sh {R_i17 : List Nat} {C : Ctx} {I : Nat → Prop} {s : Nat → V} {o : Nat → Option Ob} {K : St → Prop} : drawB C I g_law07_LexPlaces.a2 (14 :: R_i17) .done (St.mk s o) K =
 ((s 50) = V.undef ∧ guardK (s 45) false
 (demand (lenSV (s 49)) (fun x1 => quietV o (x1 :: [(s 49)]) ∧
drawB C I g_law07_LexPlaces.a2 R_i17 .done (St.mk (upd s 50 x1) o) K))
 (quietV o ((V.tup []) :: [(s 49)]) ∧
drawB C I g_law07_LexPlaces.a2 R_i17 .done (St.mk (upd s 50 (V.tup [])) o) K)
 (quietV o ((V.tup []) :: [(s 49)]) ∧
drawB C I g_law07_LexPlaces.a2 R_i17 .done (St.mk (upd s 50 (V.tup [])) o) K)) := rfl
theorem g_law07_LexPlaces_i15_sh {R_i16 : List Nat} {C : Ctx} {I : Nat → Prop} {s : Nat → V} {o : Nat → Option Ob} {K : St → Prop} : drawB C I g_law07_LexPlaces.a2 (13 :: R_i16) .done (St.mk s o) K =
 ((s 49) = V.undef ∧ guardK (s 45) false
 (demand (loadV o none (s 48)) (fun x1 => quietV o (x1 :: [(s 48)]) ∧
drawB C I g_law07_LexPlaces.a2 R_i16 .done (St.mk (upd s 49 x1) o) K))
 (quietV o ((V.tup []) :: [(s 48)]) ∧
drawB C I g_law07_LexPlaces.a2 R_i16 .done (St.mk (upd s 49 (V.tup [])) o) K)
 (quietV o ((V.tup []) :: [(s 48)]) ∧
drawB C I g_law07_LexPlaces.a2 R_i16 .done (St.mk (upd s 49 (V.tup [])) o) K)) := rfl
theorem g_law07_LexPlaces_i14_sh {R_i15 : List Nat} {C : Ctx} {I : Nat → Prop} {s : Nat → V} {o : Nat → Option Ob} {K : St → Prop} : drawB C I g_law07_LexPlaces.a2 (12 :: R_i15) .done (St.mk s o) K =
 ((s 48) = V.undef ∧ guardK (s 45) false
 (demand (faddrV 1 (s 8)) (fun x1 => quietV o (x1 :: [(s 8)]) ∧
drawB C I g_law07_LexPlaces.a2 R_i15 .done (St.mk (upd s 48 x1) o) K))
 (quietV o ((V.tup []) :: [(s 8)]) ∧
drawB C I g_law07_LexPlaces.a2 R_i15 .done (St.mk (upd s 48 (V.tup [])) o) K)
 (quietV o ((V.tup []) :: [(s 8)]) ∧
drawB C I g_law07_LexPlaces.a2 R_i15 .done (St.mk (upd s 48 (V.tup [])) o) K)) := rfl
theorem g_law07_LexPlaces_i13_sh {R_i14 : List Nat} {C : Ctx} {I : Nat → Prop} {s : Nat → V} {o : Nat → Option Ob} {K : St → Prop} : drawB C I g_law07_LexPlaces.a2 (11 :: R_i14) .done (St.mk s o) K =
 ((s 47) = V.undef ∧ guardK (s 45) false
 (demand (loadV o none (s 46)) (fun x1 => quietV o (x1 :: [(s 46)]) ∧
drawB C I g_law07_LexPlaces.a2 R_i14 .done (St.mk (upd s 47 x1) o) K))
 (quietV o ((V.tup []) :: [(s 46)]) ∧
drawB C I g_law07_LexPlaces.a2 R_i14 .done (St.mk (upd s 47 (V.tup [])) o) K)
 (quietV o ((V.tup []) :: [(s 46)]) ∧
drawB C I g_law07_LexPlaces.a2 R_i14 .done (St.mk (upd s 47 (V.tup [])) o) K)) := rfl
theorem g_law07_LexPlaces_i12_sh {R_i13 : List Nat} {C : Ctx} {I : Nat → Prop} {s : Nat → V} {o : Nat → Option Ob} {K : St → Prop} : drawB C I g_law07_LexPlaces.a2 (10 :: R_i13) .done (St.mk s o) K =
 ((s 46) = V.undef ∧ guardK (s 45) false
 (demand (faddrV 2 (s 8)) (fun x1 => quietV o (x1 :: [(s 8)]) ∧
drawB C I g_law07_LexPlaces.a2 R_i13 .done (St.mk (upd s 46 x1) o) K))
 (quietV o ((V.tup []) :: [(s 8)]) ∧
drawB C I g_law07_LexPlaces.a2 R_i13 .done (St.mk (upd s 46 (V.tup [])) o) K)
 (quietV o ((V.tup []) :: [(s 8)]) ∧
drawB C I g_law07_LexPlaces.a2 R_i13 .done (St.mk (upd s 46 (V.tup [])) o) K)) := rfl
theorem g_law07_LexPlaces_i11_sh {R_i12 : List Nat} {C : Ctx} {I : Nat → Prop} {s : Nat → V} {o : Nat → Option Ob} {K : St → Prop} : drawB C I g_law07_LexPlaces.a2 (9 :: R_i12) .done (St.mk s o) K =
 ((s 45) = V.undef ∧ (quietV o ((s 44) :: [(s 44)]) ∧
drawB C I g_law07_LexPlaces.a2 R_i12 .done (St.mk (upd s 45 (s 44)) o) K)) := rfl
theorem g_law07_LexPlaces_i10_sh {R_i11 : List Nat} {C : Ctx} {I : Nat → Prop} {s : Nat → V} {o : Nat → Option Ob} {K : St → Prop} : drawB C I g_law07_LexPlaces.a2 (8 :: R_i11) .done (St.mk s o) K =
 ((s 44) = V.undef ∧ (demand (pickV (s 40) (V.d (.bool true)) (s 43)) (fun x1 => quietV o (x1 :: [(s 40), (V.d (.bool true)), (s 43)]) ∧
drawB C I g_law07_LexPlaces.a2 R_i11 .done (St.mk (upd s 44 x1) o) K))) := rfl
theorem g_law07_LexPlaces_i9_sh {R_i10 : List Nat} {C : Ctx} {I : Nat → Prop} {s : Nat → V} {o : Nat → Option Ob} {K : St → Prop} : drawB C I g_law07_LexPlaces.a2 (7 :: R_i10) .done (St.mk s o) K =
 ((s 43) = V.undef ∧ guardK (s 40) false
 (demand (binV BinOp.eql (s 42) (V.d (.str []))) (fun x1 => quietV o (x1 :: [(s 42), (V.d (.str []))]) ∧
drawB C I g_law07_LexPlaces.a2 R_i10 .done (St.mk (upd s 43 x1) o) K))
 (quietV o ((V.tup []) :: [(s 42), (V.d (.str []))]) ∧
drawB C I g_law07_LexPlaces.a2 R_i10 .done (St.mk (upd s 43 (V.tup [])) o) K)
 (quietV o ((V.tup []) :: [(s 42), (V.d (.str []))]) ∧
drawB C I g_law07_LexPlaces.a2 R_i10 .done (St.mk (upd s 43 (V.tup [])) o) K)) := rfl
theorem g_law07_LexPlaces_i8_sh {R_i9 : List Nat} {C : Ctx} {I : Nat → Prop} {s : Nat → V} {o : Nat → Option Ob} {K : St → Prop} : drawB C I g_law07_LexPlaces.a2 (6 :: R_i9) .done (St.mk s o) K =
 ((s 42) = V.undef ∧ guardK (s 40) false
 (demand (loadV o none (s 41)) (fun x1 => quietV o (x1 :: [(s 41)]) ∧
drawB C I g_law07_LexPlaces.a2 R_i9 .done (St.mk (upd s 42 x1) o) K))
 (quietV o ((V.tup []) :: [(s 41)]) ∧
drawB C I g_law07_LexPlaces.a2 R_i9 .done (St.mk (upd s 42 (V.tup [])) o) K)
 (quietV o ((V.tup []) :: [(s 41)]) ∧
drawB C I g_law07_LexPlaces.a2 R_i9 .done (St.mk (upd s 42 (V.tup [])) o) K)) := rfl
theorem g_law07_LexPlaces_i7_sh {R_i8 : List Nat} {C : Ctx} {I : Nat → Prop} {s : Nat → V} {o : Nat → Option Ob} {K : St → Prop} : drawB C I g_law07_LexPlaces.a2 (5 :: R_i8) .done (St.mk s o) K =
 ((s 41) = V.undef ∧ guardK (s 40) false
 (demand (faddrV 1 (s 8)) (fun x1 => quietV o (x1 :: [(s 8)]) ∧
drawB C I g_law07_LexPlaces.a2 R_i8 .done (St.mk (upd s 41 x1) o) K))
 (quietV o ((V.tup []) :: [(s 8)]) ∧
drawB C I g_law07_LexPlaces.a2 R_i8 .done (St.mk (upd s 41 (V.tup [])) o) K)
 (quietV o ((V.tup []) :: [(s 8)]) ∧
drawB C I g_law07_LexPlaces.a2 R_i8 .done (St.mk (upd s 41 (V.tup [])) o) K)) := rfl
theorem g_law07_LexPlaces_i6_sh {R_i7 : List Nat} {C : Ctx} {I : Nat → Prop} {s : Nat → V} {o : Nat → Option Ob} {K : St → Prop} : drawB C I g_law07_LexPlaces.a2 (4 :: R_i7) .done (St.mk s o) K =
 ((s 40) = V.undef ∧ (quietV o ((s 39) :: [(s 39)]) ∧
drawB C I g_law07_LexPlaces.a2 R_i7 .done (St.mk (upd s 40 (s 39)) o) K)) := rfl
theorem g_law07_LexPlaces_i5_sh {R_i6 : List Nat} {C : Ctx} {I : Nat → Prop} {s : Nat → V} {o : Nat → Option Ob} {K : St → Prop} : drawB C I g_law07_LexPlaces.a2 (3 :: R_i6) .done (St.mk s o) K =
 ((s 39) = V.undef ∧ (demand (binV BinOp.lss (s 37) (s 38)) (fun x1 => quietV o (x1 :: [(s 37), (s 38)]) ∧
drawB C I g_law07_LexPlaces.a2 R_i6 .done (St.mk (upd s 39 x1) o) K))) := rfl
theorem g_law07_LexPlaces_i4_sh {R_i5 : List Nat} {C : Ctx} {I : Nat → Prop} {s : Nat → V} {o : Nat → Option Ob} {K : St → Prop} : drawB C I g_law07_LexPlaces.a2 (2 :: R_i5) .done (St.mk s o) K =
 ((s 38) = V.undef ∧ (quietV o ((s 6) :: [(s 6)]) ∧
drawB C I g_law07_LexPlaces.a2 R_i5 .done (St.mk (upd s 38 (s 6)) o) K)) := rfl
theorem g_law07_LexPlaces_i3_sh {R_i4 : List Nat} {C : Ctx} {I : Nat → Prop} {s : Nat → V} {o : Nat → Option Ob} {K : St → Prop} : drawB C I g_law07_LexPlaces.a2 (1 :: R_i4) .done (St.mk s o) K =
 ((s 37) = V.undef ∧ (demand (loadV o none (s 36)) (fun x1 => quietV o (x1 :: [(s 36)]) ∧
drawB C I g_law07_LexPlaces.a2 R_i4 .done (St.mk (upd s 37 x1) o) K))) := rfl
theorem g_law07_LexPlaces_c1_sh {C : Ctx} {I : Nat → Prop} {s : Nat → V} {o : Nat → Option Ob} {Q : Ex → St → Prop} : wpB C I (.cond (.t 70) (.seq (.region [2] (some []) none
     [⟨some 2, .mv (.c (.d (.bool false))), [], [], none, none⟩])
  (.ret))
 (.skip)) (St.mk s o) Q =
 (condK (s 70)
 (Q .ret (St.mk (look [(2, (V.d (.bool false)))]) (looko ([].map fun n => (n, o n)))))
 (Q .normal (St.mk s o))) := rfl
theorem g_law07_LexPlaces_c2_sh {C : Ctx} {I : Nat → Prop} {s : Nat → V} {o : Nat → Option Ob} {Q : Ex → St → Prop} : wpB C I (.region [0, 6, 30, 31, 32] (some []) none
   [⟨some 71, .faddr 2 (.t 8), [], [], none, none⟩,
    ⟨some 72, .load none (.t 71), [], [], none, none⟩,
    ⟨some 73, .faddr 1 (.t 8), [], [], none, none⟩,
    ⟨some 74, .load none (.t 73), [], [], none, none⟩,
    ⟨some 75, .lenS (.t 74), [], [], none, none⟩,
    ⟨some 76, .bin .add (.t 72) (.t 75), [], [], none, none⟩,
    ⟨some 6, .mv (.t 76), [], [], none, none⟩]) (St.mk s o) Q =
 (demand (faddrV 2 (s 8)) (fun x1 =>
demand (loadV o none x1) (fun x2 =>
demand (faddrV 1 (s 8)) (fun x3 =>
demand (loadV o none x3) (fun x4 =>
demand (lenSV x4) (fun x5 =>
demand (binV BinOp.add x2 x5) (fun x6 =>
Q .normal (St.mk (look [(0, (s 0)), (6, x6), (30, (s 30)), (31, (s 31)), (32, (s 32))]) (looko ([].map fun n => (n, o n))))))))))) := rfl
theorem g_law07_LexPlaces_c3_sh {R_i3 : List Nat} {R_c1 : ACode} {R_c2 : ACode} {C : Ctx} {I : Nat → Prop} {s : Nat → V} {o : Nat → Option Ob} {Q : Ex → St → Prop} : wpB C I (.seq (.seq (.region [0, 8, 30, 31, 32, 70] (some [8]) (some (0 :: R_i3, .done)) g_law07_LexPlaces.a2)
  (R_c1))
 (R_c2)) (St.mk s o) Q =
 ((s 36) = V.undef ∧ (demand (faddrV 2 (s 8)) (fun x1 => quietV o (x1 :: [(s 8)]) ∧
drawB C I g_law07_LexPlaces.a2 R_i3 .done (St.mk (upd s 36 x1) o) (fun st => (seqK (fun st => wpB C I R_c1 st (seqK (fun st => wpB C I R_c2 st Q) Q)) (seqK (fun st => wpB C I R_c2 st Q) Q)) .normal (St.trim st [0, 8, 30, 31, 32, 70] (some [8])))))) := rfl
theorem g_law07_LexPlaces_c4_sh {C : Ctx} {I : Nat → Prop} {s : Nat → V} {o : Nat → Option Ob} {Q : Ex → St → Prop} : wpB C I (.region [0, 6, 30, 31, 32] (some []) none
   [⟨some 77, .bin .add (.t 32) (.c (.d (.int .i64 1))), [], [], none, none⟩,
    ⟨some 32, .mv (.t 77), [], [], none, none⟩]) (St.mk s o) Q =
 (demand (binV BinOp.add (s 32) (V.d (.int .i64 1))) (fun x1 =>
Q .normal (St.mk (look [(0, (s 0)), (6, (s 6)), (30, (s 30)), (31, (s 31)), (32, x1)]) (looko ([].map fun n => (n, o n)))))) := rfl
theorem g_law07_LexPlaces_l0_sh {R_l0 : ACode} {R_c3 : ACode} {R_c4 : ACode} {C : Ctx} {I : Nat → Prop} {s : Nat → V} {o : Nat → Option Ob} {Q : Ex → St → Prop} (hL : R_l0 = .loop [0, 6, 30, 31, 32] (some []) (.seq (.region [0, 6, 30, 31, 32, 33] (some []) none
     [⟨some 33, .bin .lss (.t 32) (.t 31), [], [], none, none⟩])
  (.seq (.cond (.t 33) (.skip)
    (.exit 0))
   (.seq (.block 1 [0, 6, 30, 31, 32] (some []) (.seq (.region [0, 6, 8, 30, 31, 32] (some [8]) none
         [⟨some 34, .iaddr 3 (.t 30) (.t 32), [], [], none, none⟩,
          ⟨some 35, .load (some 3) (.t 34), [], [], none, none⟩,
          ⟨some 8, .alloc 8 [.d (.int .i64 0), .d (.str []), .d (.int .i64 0)], [], [], none, none⟩,
          ⟨none, .store 3 (.t 8) (.t 35), [], [], none, none⟩])
      (R_c3)))
    (R_c4)))))
 (h : demand (binV BinOp.lss (s 32) (s 31)) (fun x1 =>
condK x1
 (demand (iaddrV (looko ([].map fun n => (n, o n))) 3 (s 30) (s 32)) (fun x2 =>
demand (loadV (looko ([].map fun n => (n, o n))) (some 3) x2) (fun x3 =>
(¬ I 8 ∧ Fresh (St.mk (upd (upd (look [(0, (s 0)), (6, (s 6)), (30, (s 30)), (31, (s 31)), (32, (s 32)), (33, x1)]) 34 x2) 35 x3) (looko ([].map fun n => (n, o n)))) 8 (some 8) ∧ V.refsL 8 [V.d (.int .i64 0), V.d (.str []), V.d (.int .i64 0)] = false ∧
storeK (V.ptr 8 0) (cellsV x3) 3 (upd (looko ([].map fun n => (n, o n))) 8 (some (Ob.box [V.d (.int .i64 0), V.d (.str []), V.d (.int .i64 0)]))) (fun m4 ob5 =>
wpB C I R_c3 (St.mk (look [(0, (s 0)), (6, (s 6)), (8, (V.ptr 8 0)), (30, (s 30)), (31, (s 31)), (32, (s 32))]) (looko ([8].map fun n => (n, (upd (upd (looko ([].map fun n => (n, o n))) 8 (some (Ob.box [V.d (.int .i64 0), V.d (.str []), V.d (.int .i64 0)]))) m4 (some ob5)) n)))) (blockK 1 [0, 6, 30, 31, 32] (some []) (seqK (fun st => wpB C I R_c4 st (seqK (fun s => wpB C I R_l0 s Q) Q)) (seqK (fun s => wpB C I R_l0 s Q) Q))))))))
 (Q (.exit 0) (St.mk (look [(0, (s 0)), (6, (s 6)), (30, (s 30)), (31, (s 31)), (32, (s 32)), (33, x1)]) (looko ([].map fun n => (n, o n))))))) : wpB C I R_l0 (St.mk s o) Q := w_loopC hL h
theorem g_law07_LexPlaces_o42_sh {C : Ctx} {I : Nat → Prop} {s : Nat → V} {o : Nat → Option Ob} {K : St → Prop} : opsB C I [⟨some 101, .pick (.t 99) (.t 100) (.c (.d (.bool false))), [], [], none, none⟩,
     ⟨some 2, .mv (.t 101), [], [], none, none⟩] (St.mk s o) K =
 (demand (pickV (s 99) (s 100) (V.d (.bool false))) (fun x1 =>
K (St.mk (upd (upd s 101 x1) 2 x1) o))) := rfl
theorem g_law07_LexPlaces_o41_sh {R_o42 : List AOper} {C : Ctx} {I : Nat → Prop} {s : Nat → V} {o : Nat → Option Ob} {K : St → Prop} : opsB C I (⟨some 100, .call 73 [], [], [], (some (14, 99, true)), (some ([99, 100], (some [])))⟩ ::
     R_o42) (St.mk s o) K =
 (guardK (s 99) true
 (callK C I (St.mk (upd s 99 (V.d (D.bool true))) o) (some 100) 73 [] (fun r1 or1 =>
opsB C I R_o42 (St.mk (look [(99, (V.d (D.bool true))), (100, r1)]) (looko ([].map fun n => (n, or1 n)))) K))
 (opsB C I R_o42 (St.mk (look [(99, (V.d (D.bool false))), (100, (V.tup []))]) (looko ([].map fun n => (n, o n)))) K)
 (opsB C I R_o42 (St.mk (look [(99, (V.tup [])), (100, (V.tup []))]) (looko ([].map fun n => (n, o n)))) K)) := rfl
theorem g_law07_LexPlaces_o40_sh {R_o41 : List AOper} {C : Ctx} {I : Nat → Prop} {s : Nat → V} {o : Nat → Option Ob} {K : St → Prop} : opsB C I (⟨some 98, .pick (.t 95) (.t 97) (.c (.d (.bool false))), [], [], none, none⟩ ::
     ⟨some 99, .mv (.t 98), [], [], none, (some ([99], (some [])))⟩ ::
     R_o41) (St.mk s o) K =
 (demand (pickV (s 95) (s 97) (V.d (.bool false))) (fun x1 =>
opsB C I R_o41 (St.mk (look [(99, x1)]) (looko ([].map fun n => (n, o n)))) K)) := rfl
theorem g_law07_LexPlaces_o39_sh {R_o40 : List AOper} {C : Ctx} {I : Nat → Prop} {s : Nat → V} {o : Nat → Option Ob} {K : St → Prop} : opsB C I (⟨some 96, .mv (.t 11), [], [], (some (10, 95, true)), none⟩ ::
     ⟨some 97, .bin .eql (.t 96) (.c (.d (.int .i64 2))), [], [], (some (10, 95, true)), (some ([95, 97], (some [])))⟩ ::
     R_o40) (St.mk s o) K =
 (guardK (s 95) true
 (demand (binV BinOp.eql (s 11) (V.d (.int .i64 2))) (fun x1 =>
opsB C I R_o40 (St.mk (look [(95, (V.d (D.bool true))), (97, x1)]) (looko ([].map fun n => (n, o n)))) K))
 (opsB C I R_o40 (St.mk (look [(95, (V.d (D.bool false))), (97, (V.tup []))]) (looko ([].map fun n => (n, o n)))) K)
 (opsB C I R_o40 (St.mk (look [(95, (V.tup [])), (97, (V.tup []))]) (looko ([].map fun n => (n, o n)))) K)) := rfl
theorem g_law07_LexPlaces_o38_sh {R_o39 : List AOper} {C : Ctx} {I : Nat → Prop} {s : Nat → V} {o : Nat → Option Ob} {K : St → Prop} : opsB C I (⟨some 94, .pick (.t 88) (.t 93) (.c (.d (.bool false))), [], [], none, none⟩ ::
     ⟨some 95, .mv (.t 94), [], [], none, (some ([11, 95], (some [])))⟩ ::
     R_o39) (St.mk s o) K =
 (demand (pickV (s 88) (s 93) (V.d (.bool false))) (fun x1 =>
opsB C I R_o39 (St.mk (look [(11, (s 11)), (95, x1)]) (looko ([].map fun n => (n, o n)))) K)) := rfl
theorem g_law07_LexPlaces_o37_sh {R_o38 : List AOper} {C : Ctx} {I : Nat → Prop} {s : Nat → V} {o : Nat → Option Ob} {K : St → Prop} : opsB C I (⟨some 89, .mv (.t 10), [], [], (some (3, 88, true)), none⟩ ::
     ⟨some 90, .mv (.t 0), [], [], (some (3, 88, true)), none⟩ ::
     ⟨some 91, .lenS (.t 90), [], [], (some (3, 88, true)), none⟩ ::
     ⟨some 92, .bin .add (.t 91) (.c (.d (.int .i64 1))), [], [], (some (3, 88, true)), none⟩ ::
     ⟨some 93, .bin .eql (.t 89) (.t 92), [], [], (some (3, 88, true)), (some ([11, 88, 93], (some [])))⟩ ::
     R_o38) (St.mk s o) K =
 (guardK (s 88) true
 (demand (lenSV (s 0)) (fun x1 =>
demand (binV BinOp.add x1 (V.d (.int .i64 1))) (fun x2 =>
demand (binV BinOp.eql (s 10) x2) (fun x3 =>
opsB C I R_o38 (St.mk (look [(11, (s 11)), (88, (V.d (D.bool true))), (93, x3)]) (looko ([].map fun n => (n, o n)))) K))))
 (opsB C I R_o38 (St.mk (look [(11, (s 11)), (88, (V.d (D.bool false))), (93, (V.tup []))]) (looko ([].map fun n => (n, o n)))) K)
 (opsB C I R_o38 (St.mk (look [(11, (s 11)), (88, (V.tup [])), (93, (V.tup []))]) (looko ([].map fun n => (n, o n)))) K)) := rfl
theorem g_law07_LexPlaces_c5_sh {C : Ctx} {I : Nat → Prop} {s : Nat → V} {o : Nat → Option Ob} {Q : Ex → St → Prop} : wpB C I (.ret) (St.mk s o) Q =
 (Q .ret (St.mk s o)) := rfl
theorem g_law07_LexPlaces_c6_sh {R_o37 : List AOper} {R_c5 : ACode} {C : Ctx} {I : Nat → Prop} {s : Nat → V} {o : Nat → Option Ob} {Q : Ex → St → Prop} : wpB C I (.seq (.region [2] (some []) none
    (⟨some 85, .mv (.t 9), [], [], none, none⟩ ::
     ⟨some 86, .len (.t 85), [], [], none, none⟩ ::
     ⟨some 87, .bin .eql (.t 86) (.c (.d (.int .i64 0))), [], [], none, none⟩ ::
     ⟨some 88, .mv (.t 87), [], [], none, (some ([0, 10, 11, 88], (some [])))⟩ ::
     R_o37))
 (R_c5)) (St.mk s o) Q =
 (demand (lenV o (s 9)) (fun x1 =>
demand (binV BinOp.eql x1 (V.d (.int .i64 0))) (fun x2 =>
opsB C I R_o37 (St.mk (look [(0, (s 0)), (10, (s 10)), (11, (s 11)), (88, x2)]) (looko ([].map fun n => (n, o n)))) (fun st => (seqK (fun st => wpB C I R_c5 st Q) Q) .normal (St.trim st [2] (some [])))))) := rfl
theorem g_law07_LexPlaces_c7_sh {R_c6 : ACode} {C : Ctx} {I : Nat → Prop} {s : Nat → V} {o : Nat → Option Ob} {Q : Ex → St → Prop} : wpB C I (.seq (.region [0, 9, 10, 11] (some []) none
    [⟨some 79, .mv (.t 0), [], [], none, none⟩,
     ⟨some 80, .bin .add (.t 79) (.c (.d (.str [10, 63]))), [], [], none, none⟩,
     ⟨some 81, .call 74 [(.t 80)], [], [], none, none⟩,
     ⟨some 78, .mv (.t 81), [], [], none, none⟩,
     ⟨some 82, .ext (.t 78) 0, [], [], none, none⟩,
     ⟨some 83, .ext (.t 78) 1, [], [], none, none⟩,
     ⟨some 84, .ext (.t 78) 2, [], [], none, none⟩,
     ⟨some 9, .mv (.t 82), [], [], none, none⟩,
     ⟨some 10, .mv (.t 83), [], [], none, none⟩,
     ⟨some 11, .mv (.t 84), [], [], none, none⟩])
 (R_c6)) (St.mk s o) Q =
 (demand (binV BinOp.add (s 0) (V.d (.str [10, 63]))) (fun x1 =>
callK C I (St.mk (upd (upd s 79 (s 0)) 80 x1) o) (some 81) 74 [x1] (fun r2 or2 =>
demand (extV r2 0) (fun x3 =>
demand (extV r2 1) (fun x4 =>
demand (extV r2 2) (fun x5 =>
wpB C I R_c6 (St.mk (look [(0, (s 0)), (9, x3), (10, x4), (11, x5)]) (looko ([].map fun n => (n, or2 n)))) Q)))))) := rfl
theorem g_law07_LexPlaces_c8_sh {R_l0 : ACode} {R_c7 : ACode} {C : Ctx} {I : Nat → Prop} {s : Nat → V} {o : Nat → Option Ob} {Q : Ex → St → Prop} : wpB C I (.seq (.region [0, 3, 6] (some []) none
    [⟨some 6, .mv (.c (.d (.int .i64 0))), [], [], none, none⟩])
 (.seq (.seq (.region [0, 6, 30, 31, 32] (some []) none
      [⟨some 30, .mv (.t 3), [], [], none, none⟩,
       ⟨some 31, .len (.t 30), [], [], none, none⟩,
       ⟨some 32, .mv (.c (.d (.int .i64 0))), [], [], none, none⟩])
   (.block 0 [0] (some []) (R_l0)))
  (R_c7))) (St.mk s o) Q =
 (demand (lenV (looko ([].map fun n => (n, o n))) (s 3)) (fun x1 =>
wpB C I R_l0 (St.mk (look [(0, (s 0)), (6, (V.d (.int .i64 0))), (30, (s 3)), (31, x1), (32, (V.d (.int .i64 0)))]) (looko ([].map fun n => (n, o n)))) (blockK 0 [0] (some []) (seqK (fun st => wpB C I R_c7 st Q) Q)))) := rfl
theorem g_law07_LexPlaces_c9_sh {R_o0 : List AOper} {R_c0 : ACode} {R_c8 : ACode} {C : Ctx} {I : Nat → Prop} {s : Nat → V} {o : Nat → Option Ob} {Q : Ex → St → Prop} : wpB C I (.seq (.seq (.region [0, 3, 23] (some []) none
     [⟨some 22, .mv (.t 5), [], [], none, none⟩,
      ⟨some 23, .bin .neq (.t 22) (.c (.d (.int .i64 0))), [], [], none, none⟩])
  (.cond (.t 23) (.seq (.region [2] (some []) none
       (⟨some 24, .mv (.t 3), [], [], none, none⟩ ::
        ⟨some 25, .len (.t 24), [], [], none, none⟩ ::
        ⟨some 26, .bin .eql (.t 25) (.c (.d (.int .i64 0))), [], [], none, none⟩ ::
        ⟨some 27, .mv (.t 26), [], [], none, (some ([27], (some [])))⟩ ::
        R_o0))
    (R_c0))
   (.skip)))
 (R_c8)) (St.mk s o) Q =
 (demand (binV BinOp.neq (s 5) (V.d (.int .i64 0))) (fun x1 =>
condK x1
 (demand (lenV (looko ([].map fun n => (n, o n))) (s 3)) (fun x2 =>
demand (binV BinOp.eql x2 (V.d (.int .i64 0))) (fun x3 =>
opsB C I R_o0 (St.mk (look [(27, x3)]) (looko ([].map fun n => (n, o n)))) (fun st => (seqK (fun st => wpB C I R_c0 st (seqK (fun st => wpB C I R_c8 st Q) Q)) (seqK (fun st => wpB C I R_c8 st Q) Q)) .normal (St.trim st [2] (some []))))))
 (wpB C I R_c8 (St.mk (look [(0, (s 0)), (3, (s 3)), (23, x1)]) (looko ([].map fun n => (n, o n)))) Q))) := rfl
theorem g_law07_LexPlaces_c10_sh {R_c9 : ACode} {C : Ctx} {I : Nat → Prop} {s : Nat → V} {o : Nat → Option Ob} {Q : Ex → St → Prop} : wpB C I (.seq (.region [0, 3, 5] (some []) none
    [⟨some 17, .mv (.t 0), [], [], none, none⟩,
     ⟨some 18, .call 74 [(.t 17)], [], [], none, none⟩,
     ⟨some 16, .mv (.t 18), [], [], none, none⟩,
     ⟨some 19, .ext (.t 16) 0, [], [], none, none⟩,
     ⟨some 20, .ext (.t 16) 1, [], [], none, none⟩,
     ⟨some 21, .ext (.t 16) 2, [], [], none, none⟩,
     ⟨some 3, .mv (.t 19), [], [], none, none⟩,
     ⟨some 4, .mv (.t 20), [], [], none, none⟩,
     ⟨some 5, .mv (.t 21), [], [], none, none⟩])
 (R_c9)) (St.mk s o) Q =
 (callK C I (St.mk (upd s 17 (s 0)) o) (some 18) 74 [(s 0)] (fun r1 or1 =>
demand (extV r1 0) (fun x2 =>
demand (extV r1 1) (fun x3 =>
demand (extV r1 2) (fun x4 =>
wpB C I R_c9 (St.mk (look [(0, (s 0)), (3, x2), (5, x4)]) (looko ([].map fun n => (n, or1 n)))) Q))))) := rfl
theorem g_law07_LexPlaces_code_sh {R_c10 : ACode} {C : Ctx} {I : Nat → Prop} {s : Nat → V} {o : Nat → Option Ob} {Q : Ex → St → Prop} : wpB C I (.seq (.region [0] (some []) none
    [⟨some 2, .mv (.c (.d (.bool false))), [], [], none, none⟩])
 (.seq (.seq (.region [0, 14] (some []) none
      [⟨some 12, .mv (.t 0), [], [], none, none⟩,
       ⟨some 13, .lenS (.t 12), [], [], none, none⟩,
       ⟨some 14, .bin .gtr (.t 13) (.c (.d (.int .i64 600))), [], [], none, none⟩])
   (.cond (.t 14) (.seq (.region [2] (some []) none
        [⟨some 15, .call 73 [], [], [], none, none⟩,
         ⟨some 2, .mv (.t 15), [], [], none, none⟩])
     (.ret))
    (.skip)))
  (R_c10))) (St.mk s o) Q =
 (demand (lenSV (s 0)) (fun x1 =>
demand (binV BinOp.gtr x1 (V.d (.int .i64 600))) (fun x2 =>
condK x2
 (callK C I (St.mk (look [(0, (s 0)), (14, x2)]) (looko ([].map fun n => (n, o n)))) (some 15) 73 [] (fun r3 or3 =>
Q .ret (St.mk (look [(2, r3)]) (looko ([].map fun n => (n, or3 n))))))
 (wpB C I R_c10 (St.mk (look [(0, (s 0)), (14, x2)]) (looko ([].map fun n => (n, o n)))) Q)))) := rfl
theorem g_law07_LexJoins_o1_sh {C : Ctx} {I : Nat → Prop} {s : Nat → V} {o : Nat → Option Ob} {K : St → Prop} : opsB C I [⟨some 25, .pick (.t 21) (.c (.d (.bool true))) (.t 24), [], [], none, none⟩] (St.mk s o) K =
 (demand (pickV (s 21) (V.d (.bool true)) (s 24)) (fun x1 =>
K (St.mk (upd s 25 x1) o))) := rfl
theorem g_law07_LexJoins_o0_sh {R_o1 : List AOper} {C : Ctx} {I : Nat → Prop} {s : Nat → V} {o : Nat → Option Ob} {K : St → Prop} : opsB C I (⟨some 22, .mv (.t 1), [], [], (some (3, 21, false)), none⟩ ::
     ⟨some 23, .lenS (.t 22), [], [], (some (3, 21, false)), none⟩ ::
     ⟨some 24, .bin .gtr (.t 23) (.c (.d (.int .i64 300))), [], [], (some (3, 21, false)), (some ([0, 1, 21, 24], (some [])))⟩ ::
     R_o1) (St.mk s o) K =
 (guardK (s 21) false
 (demand (lenSV (s 1)) (fun x1 =>
demand (binV BinOp.gtr x1 (V.d (.int .i64 300))) (fun x2 =>
opsB C I R_o1 (St.mk (look [(0, (s 0)), (1, (s 1)), (21, (V.d (D.bool false))), (24, x2)]) (looko ([].map fun n => (n, o n)))) K)))
 (opsB C I R_o1 (St.mk (look [(0, (s 0)), (1, (s 1)), (21, (V.d (D.bool true))), (24, (V.tup []))]) (looko ([].map fun n => (n, o n)))) K)
 (opsB C I R_o1 (St.mk (look [(0, (s 0)), (1, (s 1)), (21, (V.tup [])), (24, (V.tup []))]) (looko ([].map fun n => (n, o n)))) K)) := rfl
theorem g_law07_LexJoins_c0_sh {C : Ctx} {I : Nat → Prop} {s : Nat → V} {o : Nat → Option Ob} {Q : Ex → St → Prop} : wpB C I (.cond (.t 25) (.seq (.region [4] (some []) none
     [⟨some 26, .call 73 [], [], [], none, none⟩,
      ⟨some 4, .mv (.t 26), [], [], none, none⟩])
  (.ret))
 (.skip)) (St.mk s o) Q =
 (condK (s 25)
 (callK C I (St.mk s o) (some 26) 73 [] (fun r1 or1 =>
Q .ret (St.mk (look [(4, r1)]) (looko ([].map fun n => (n, or1 n))))))
 (Q .normal (St.mk s o))) := rfl
theorem g_law07_LexJoins_o7_sh {C : Ctx} {I : Nat → Prop} {s : Nat → V} {o : Nat → Option Ob} {K : St → Prop} : opsB C I [⟨some 66, .pick (.t 64) (.t 65) (.c (.d (.bool false))), [], [], none, none⟩,
     ⟨some 4, .mv (.t 66), [], [], none, none⟩] (St.mk s o) K =
 (demand (pickV (s 64) (s 65) (V.d (.bool false))) (fun x1 =>
K (St.mk (upd (upd s 66 x1) 4 x1) o))) := rfl
theorem g_law07_LexJoins_o6_sh {R_o7 : List AOper} {C : Ctx} {I : Nat → Prop} {s : Nat → V} {o : Nat → Option Ob} {K : St → Prop} : opsB C I (⟨some 65, .call 73 [], [], [], (some (13, 64, true)), (some ([64, 65], (some [])))⟩ ::
     R_o7) (St.mk s o) K =
 (guardK (s 64) true
 (callK C I (St.mk (upd s 64 (V.d (D.bool true))) o) (some 65) 73 [] (fun r1 or1 =>
opsB C I R_o7 (St.mk (look [(64, (V.d (D.bool true))), (65, r1)]) (looko ([].map fun n => (n, or1 n)))) K))
 (opsB C I R_o7 (St.mk (look [(64, (V.d (D.bool false))), (65, (V.tup []))]) (looko ([].map fun n => (n, o n)))) K)
 (opsB C I R_o7 (St.mk (look [(64, (V.tup [])), (65, (V.tup []))]) (looko ([].map fun n => (n, o n)))) K)) := rfl
theorem g_law07_LexJoins_o5_sh {R_o6 : List AOper} {C : Ctx} {I : Nat → Prop} {s : Nat → V} {o : Nat → Option Ob} {K : St → Prop} : opsB C I (⟨some 63, .pick (.t 59) (.t 62) (.c (.d (.bool false))), [], [], none, none⟩ ::
     ⟨some 64, .mv (.t 63), [], [], none, (some ([64], (some [])))⟩ ::
     R_o6) (St.mk s o) K =
 (demand (pickV (s 59) (s 62) (V.d (.bool false))) (fun x1 =>
opsB C I R_o6 (St.mk (look [(64, x1)]) (looko ([].map fun n => (n, o n)))) K)) := rfl
theorem g_law07_LexJoins_o4_sh {R_o5 : List AOper} {C : Ctx} {I : Nat → Prop} {s : Nat → V} {o : Nat → Option Ob} {K : St → Prop} : opsB C I (⟨some 60, .mv (.t 11), [], [], (some (8, 59, true)), none⟩ ::
     ⟨some 61, .len (.t 60), [], [], (some (8, 59, true)), none⟩ ::
     ⟨some 62, .bin .eql (.t 61) (.c (.d (.int .i64 0))), [], [], (some (8, 59, true)), (some ([59, 62], (some [])))⟩ ::
     R_o5) (St.mk s o) K =
 (guardK (s 59) true
 (demand (lenV o (s 11)) (fun x1 =>
demand (binV BinOp.eql x1 (V.d (.int .i64 0))) (fun x2 =>
opsB C I R_o5 (St.mk (look [(59, (V.d (D.bool true))), (62, x2)]) (looko ([].map fun n => (n, o n)))) K)))
 (opsB C I R_o5 (St.mk (look [(59, (V.d (D.bool false))), (62, (V.tup []))]) (looko ([].map fun n => (n, o n)))) K)
 (opsB C I R_o5 (St.mk (look [(59, (V.tup [])), (62, (V.tup []))]) (looko ([].map fun n => (n, o n)))) K)) := rfl
theorem g_law07_LexJoins_o3_sh {R_o4 : List AOper} {C : Ctx} {I : Nat → Prop} {s : Nat → V} {o : Nat → Option Ob} {K : St → Prop} : opsB C I (⟨some 58, .pick (.t 54) (.t 57) (.c (.d (.bool false))), [], [], none, none⟩ ::
     ⟨some 59, .mv (.t 58), [], [], none, (some ([11, 59], (some [])))⟩ ::
     R_o4) (St.mk s o) K =
 (demand (pickV (s 54) (s 57) (V.d (.bool false))) (fun x1 =>
opsB C I R_o4 (St.mk (look [(11, (s 11)), (59, x1)]) (looko ([].map fun n => (n, o n)))) K)) := rfl
theorem g_law07_LexJoins_o2_sh {R_o3 : List AOper} {C : Ctx} {I : Nat → Prop} {s : Nat → V} {o : Nat → Option Ob} {K : St → Prop} : opsB C I (⟨some 55, .mv (.t 12), [], [], (some (3, 54, true)), none⟩ ::
     ⟨some 56, .mv (.t 6), [], [], (some (3, 54, true)), none⟩ ::
     ⟨some 57, .bin .eql (.t 55) (.t 56), [], [], (some (3, 54, true)), (some ([11, 54, 57], (some [])))⟩ ::
     R_o3) (St.mk s o) K =
 (guardK (s 54) true
 (demand (binV BinOp.eql (s 12) (s 6)) (fun x1 =>
opsB C I R_o3 (St.mk (look [(11, (s 11)), (54, (V.d (D.bool true))), (57, x1)]) (looko ([].map fun n => (n, o n)))) K))
 (opsB C I R_o3 (St.mk (look [(11, (s 11)), (54, (V.d (D.bool false))), (57, (V.tup []))]) (looko ([].map fun n => (n, o n)))) K)
 (opsB C I R_o3 (St.mk (look [(11, (s 11)), (54, (V.tup [])), (57, (V.tup []))]) (looko ([].map fun n => (n, o n)))) K)) := rfl
theorem g_law07_LexJoins_c1_sh {C : Ctx} {I : Nat → Prop} {s : Nat → V} {o : Nat → Option Ob} {Q : Ex → St → Prop} : wpB C I (.ret) (St.mk s o) Q =
 (Q .ret (St.mk s o)) := rfl
theorem g_law07_LexJoins_o13_sh {C : Ctx} {I : Nat → Prop} {s : Nat → V} {o : Nat → Option Ob} {K : St → Prop} : opsB C I [⟨some 89, .pick (.t 87) (.t 88) (.c (.d (.bool false))), [], [], none, none⟩,
     ⟨some 4, .mv (.t 89), [], [], none, none⟩] (St.mk s o) K =
 (demand (pickV (s 87) (s 88) (V.d (.bool false))) (fun x1 =>
K (St.mk (upd (upd s 89 x1) 4 x1) o))) := rfl
theorem g_law07_LexJoins_o12_sh {R_o13 : List AOper} {C : Ctx} {I : Nat → Prop} {s : Nat → V} {o : Nat → Option Ob} {K : St → Prop} : opsB C I (⟨some 88, .call 73 [], [], [], (some (17, 87, true)), (some ([87, 88], (some [])))⟩ ::
     R_o13) (St.mk s o) K =
 (guardK (s 87) true
 (callK C I (St.mk (upd s 87 (V.d (D.bool true))) o) (some 88) 73 [] (fun r1 or1 =>
opsB C I R_o13 (St.mk (look [(87, (V.d (D.bool true))), (88, r1)]) (looko ([].map fun n => (n, or1 n)))) K))
 (opsB C I R_o13 (St.mk (look [(87, (V.d (D.bool false))), (88, (V.tup []))]) (looko ([].map fun n => (n, o n)))) K)
 (opsB C I R_o13 (St.mk (look [(87, (V.tup [])), (88, (V.tup []))]) (looko ([].map fun n => (n, o n)))) K)) := rfl
theorem g_law07_LexJoins_o11_sh {R_o12 : List AOper} {C : Ctx} {I : Nat → Prop} {s : Nat → V} {o : Nat → Option Ob} {K : St → Prop} : opsB C I (⟨some 86, .pick (.t 82) (.t 85) (.c (.d (.bool false))), [], [], none, none⟩ ::
     ⟨some 87, .mv (.t 86), [], [], none, (some ([87], (some [])))⟩ ::
     R_o12) (St.mk s o) K =
 (demand (pickV (s 82) (s 85) (V.d (.bool false))) (fun x1 =>
opsB C I R_o12 (St.mk (look [(87, x1)]) (looko ([].map fun n => (n, o n)))) K)) := rfl
theorem g_law07_LexJoins_o10_sh {R_o11 : List AOper} {C : Ctx} {I : Nat → Prop} {s : Nat → V} {o : Nat → Option Ob} {K : St → Prop} : opsB C I (⟨some 83, .mv (.t 11), [], [], (some (12, 82, true)), none⟩ ::
     ⟨some 84, .len (.t 83), [], [], (some (12, 82, true)), none⟩ ::
     ⟨some 85, .bin .eql (.t 84) (.c (.d (.int .i64 0))), [], [], (some (12, 82, true)), (some ([82, 85], (some [])))⟩ ::
     R_o11) (St.mk s o) K =
 (guardK (s 82) true
 (demand (lenV o (s 11)) (fun x1 =>
demand (binV BinOp.eql x1 (V.d (.int .i64 0))) (fun x2 =>
opsB C I R_o11 (St.mk (look [(82, (V.d (D.bool true))), (85, x2)]) (looko ([].map fun n => (n, o n)))) K)))
 (opsB C I R_o11 (St.mk (look [(82, (V.d (D.bool false))), (85, (V.tup []))]) (looko ([].map fun n => (n, o n)))) K)
 (opsB C I R_o11 (St.mk (look [(82, (V.tup [])), (85, (V.tup []))]) (looko ([].map fun n => (n, o n)))) K)) := rfl
theorem g_law07_LexJoins_o9_sh {R_o10 : List AOper} {C : Ctx} {I : Nat → Prop} {s : Nat → V} {o : Nat → Option Ob} {K : St → Prop} : opsB C I (⟨some 81, .pick (.t 73) (.t 80) (.c (.d (.bool false))), [], [], none, none⟩ ::
     ⟨some 82, .mv (.t 81), [], [], none, (some ([11, 82], (some [])))⟩ ::
     R_o10) (St.mk s o) K =
 (demand (pickV (s 73) (s 80) (V.d (.bool false))) (fun x1 =>
opsB C I R_o10 (St.mk (look [(11, (s 11)), (82, x1)]) (looko ([].map fun n => (n, o n)))) K)) := rfl
theorem g_law07_LexJoins_o8_sh {R_o9 : List AOper} {C : Ctx} {I : Nat → Prop} {s : Nat → V} {o : Nat → Option Ob} {K : St → Prop} : opsB C I (⟨some 74, .mv (.t 12), [], [], (some (3, 73, true)), none⟩ ::
     ⟨some 75, .mv (.t 9), [], [], (some (3, 73, true)), none⟩ ::
     ⟨some 76, .mv (.t 0), [], [], (some (3, 73, true)), none⟩ ::
     ⟨some 77, .lenS (.t 76), [], [], (some (3, 73, true)), none⟩ ::
     ⟨some 78, .bin .add (.t 75) (.t 77), [], [], (some (3, 73, true)), none⟩ ::
     ⟨some 79, .bin .add (.t 78) (.c (.d (.int .i64 1))), [], [], (some (3, 73, true)), none⟩ ::
     ⟨some 80, .bin .eql (.t 74) (.t 79), [], [], (some (3, 73, true)), (some ([11, 73, 80], (some [])))⟩ ::
     R_o9) (St.mk s o) K =
 (guardK (s 73) true
 (demand (lenSV (s 0)) (fun x1 =>
demand (binV BinOp.add (s 9) x1) (fun x2 =>
demand (binV BinOp.add x2 (V.d (.int .i64 1))) (fun x3 =>
demand (binV BinOp.eql (s 12) x3) (fun x4 =>
opsB C I R_o9 (St.mk (look [(11, (s 11)), (73, (V.d (D.bool true))), (80, x4)]) (looko ([].map fun n => (n, o n)))) K)))))
 (opsB C I R_o9 (St.mk (look [(11, (s 11)), (73, (V.d (D.bool false))), (80, (V.tup []))]) (looko ([].map fun n => (n, o n)))) K)
 (opsB C I R_o9 (St.mk (look [(11, (s 11)), (73, (V.tup [])), (80, (V.tup []))]) (looko ([].map fun n => (n, o n)))) K)) := rfl
theorem g_law07_LexJoins_c2_sh {C : Ctx} {I : Nat → Prop} {s : Nat → V} {o : Nat → Option Ob} {Q : Ex → St → Prop} : wpB C I (.ret) (St.mk s o) Q =
 (Q .ret (St.mk s o)) := rfl
theorem g_law07_LexJoins_o15_sh {C : Ctx} {I : Nat → Prop} {s : Nat → V} {o : Nat → Option Ob} {K : St → Prop} : opsB C I [⟨some 102, .pick (.t 93) (.c (.d (.bool true))) (.t 101), [], [], none, none⟩,
     ⟨some 90, .mv (.t 102), [], [], none, none⟩] (St.mk s o) K =
 (demand (pickV (s 93) (V.d (.bool true)) (s 101)) (fun x1 =>
K (St.mk (upd (upd s 102 x1) 90 x1) o))) := rfl
theorem g_law07_LexJoins_o14_sh {R_o15 : List AOper} {C : Ctx} {I : Nat → Prop} {s : Nat → V} {o : Nat → Option Ob} {K : St → Prop} : opsB C I (⟨some 94, .mv (.t 11), [], [], (some (2, 93, false)), none⟩ ::
     ⟨some 95, .len (.t 94), [], [], (some (2, 93, false)), none⟩ ::
     ⟨some 96, .mv (.t 5), [], [], (some (2, 93, false)), none⟩ ::
     ⟨some 97, .len (.t 96), [], [], (some (2, 93, false)), none⟩ ::
     ⟨some 98, .mv (.t 8), [], [], (some (2, 93, false)), none⟩ ::
     ⟨some 99, .len (.t 98), [], [], (some (2, 93, false)), none⟩ ::
     ⟨some 100, .bin .add (.t 97) (.t 99), [], [], (some (2, 93, false)), none⟩ ::
     ⟨some 101, .bin .neq (.t 95) (.t 100), [], [], (some (2, 93, false)), (some ([0, 5, 8, 11, 93, 101], (some [])))⟩ ::
     R_o15) (St.mk s o) K =
 (guardK (s 93) false
 (demand (lenV o (s 11)) (fun x1 =>
demand (lenV o (s 5)) (fun x2 =>
demand (lenV o (s 8)) (fun x3 =>
demand (binV BinOp.add x2 x3) (fun x4 =>
demand (binV BinOp.neq x1 x4) (fun x5 =>
opsB C I R_o15 (St.mk (look [(0, (s 0)), (5, (s 5)), (8, (s 8)), (11, (s 11)), (93, (V.d (D.bool false))), (101, x5)]) (looko ([].map fun n => (n, o n)))) K))))))
 (opsB C I R_o15 (St.mk (look [(0, (s 0)), (5, (s 5)), (8, (s 8)), (11, (s 11)), (93, (V.d (D.bool true))), (101, (V.tup []))]) (looko ([].map fun n => (n, o n)))) K)
 (opsB C I R_o15 (St.mk (look [(0, (s 0)), (5, (s 5)), (8, (s 8)), (11, (s 11)), (93, (V.tup [])), (101, (V.tup []))]) (looko ([].map fun n => (n, o n)))) K)) := rfl
theorem g_law07_LexJoins_c3_sh {C : Ctx} {I : Nat → Prop} {s : Nat → V} {o : Nat → Option Ob} {Q : Ex → St → Prop} : wpB C I (.cond (.t 90) (.seq (.region [4] (some []) none
     [⟨some 4, .mv (.c (.d (.bool false))), [], [], none, none⟩])
  (.ret))
 (.skip)) (St.mk s o) Q =
 (condK (s 90)
 (Q .ret (St.mk (look [(4, (V.d (.bool false)))]) (looko ([].map fun n => (n, o n)))))
 (Q .normal (St.mk s o))) := rfl
theorem g_law07_LexJoins_c4_sh {C : Ctx} {I : Nat → Prop} {s : Nat → V} {o : Nat → Option Ob} {Q : Ex → St → Prop} : wpB C I (.seq (.region [0, 5, 8, 11, 103, 104, 105, 115] (some []) (some ([0, 1, 2, 3, 4, 5], .done))
    [⟨some 110, .mv (.t 11), [], [], none, none⟩,
     ⟨some 111, .mv (.t 14), [], [], none, none⟩,
     ⟨some 112, .iaddr 3 (.t 110) (.t 111), [], [0, 1], none, none⟩,
     ⟨some 113, .load (some 3) (.t 112), [], [2], none, none⟩,
     ⟨some 114, .load (some 3) (.t 15), [], [], none, none⟩,
     ⟨some 115, .eqs true [0, 2, 0] (.t 113) (.t 114), [], [3, 4], none, none⟩])
 (.cond (.t 115) (.seq (.region [4] (some []) none
      [⟨some 4, .mv (.c (.d (.bool false))), [], [], none, none⟩])
   (.ret))
  (.skip))) (St.mk s o) Q =
 ((s 110) = V.undef ∧ (quietV o ((s 11) :: [(s 11)]) ∧
(s 111) = V.undef ∧ (quietV o ((s 14) :: [(s 14)]) ∧
(s 112) = V.undef ∧ (demand (iaddrV o 3 (s 11) (s 14)) (fun x3 => quietV o (x3 :: [(s 11), (s 14)]) ∧
(s 113) = V.undef ∧ (demand (loadV o (some 3) x3) (fun x4 => quietV o (x4 :: [x3]) ∧
(s 114) = V.undef ∧ (demand (loadV o (some 3) (s 15)) (fun x5 => quietV o (x5 :: [(s 15)]) ∧
(s 115) = V.undef ∧ (demand (eqsV true [0, 2, 0] x4 x5) (fun x6 => quietV o (x6 :: [x4, x5]) ∧
condK x6
 (Q .ret (St.mk (look [(4, (V.d (.bool false)))]) (looko ([].map fun n => (n, o n)))))
 (Q .normal (St.mk (look [(0, (s 0)), (5, (s 5)), (8, (s 8)), (11, (s 11)), (103, (s 103)), (104, (s 104)), (105, (s 105)), (115, x6)]) (looko ([].map fun n => (n, o n)))))))))))))))) := rfl
theorem g_law07_LexJoins_c5_sh {C : Ctx} {I : Nat → Prop} {s : Nat → V} {o : Nat → Option Ob} {Q : Ex → St → Prop} : wpB C I (.region [0, 5, 8, 11, 103, 104, 105] (some []) none
   [⟨some 116, .bin .add (.t 105) (.c (.d (.int .i64 1))), [], [], none, none⟩,
    ⟨some 105, .mv (.t 116), [], [], none, none⟩]) (St.mk s o) Q =
 (demand (binV BinOp.add (s 105) (V.d (.int .i64 1))) (fun x1 =>
Q .normal (St.mk (look [(0, (s 0)), (5, (s 5)), (8, (s 8)), (11, (s 11)), (103, (s 103)), (104, (s 104)), (105, x1)]) (looko ([].map fun n => (n, o n)))))) := rfl
theorem g_law07_LexJoins_l0_sh {R_l0 : ACode} {R_c4 : ACode} {R_c5 : ACode} {C : Ctx} {I : Nat → Prop} {s : Nat → V} {o : Nat → Option Ob} {Q : Ex → St → Prop} (hL : R_l0 = .loop [0, 5, 8, 11, 103, 104, 105] (some []) (.seq (.region [0, 5, 8, 11, 103, 104, 105, 106] (some []) none
     [⟨some 106, .bin .lss (.t 105) (.t 104), [], [], none, none⟩])
  (.seq (.cond (.t 106) (.skip)
    (.exit 1))
   (.seq (.block 2 [0, 5, 8, 11, 103, 104, 105] (some []) (.seq (.region [0, 5, 8, 11, 14, 15, 103, 104, 105] (some [15]) none
         [⟨some 107, .mv (.t 105), [], [], none, none⟩,
          ⟨some 108, .iaddr 3 (.t 103) (.t 105), [], [], none, none⟩,
          ⟨some 109, .load (some 3) (.t 108), [], [], none, none⟩,
          ⟨some 15, .alloc 15 [.d (.int .i64 0), .d (.str []), .d (.int .i64 0)], [], [], none, none⟩,
          ⟨some 14, .mv (.t 107), [], [], none, none⟩,
          ⟨none, .store 3 (.t 15) (.t 109), [], [], none, none⟩])
      (R_c4)))
    (R_c5)))))
 (h : demand (binV BinOp.lss (s 105) (s 104)) (fun x1 =>
condK x1
 (demand (iaddrV (looko ([].map fun n => (n, o n))) 3 (s 103) (s 105)) (fun x2 =>
demand (loadV (looko ([].map fun n => (n, o n))) (some 3) x2) (fun x3 =>
(¬ I 15 ∧ Fresh (St.mk (upd (upd (upd (look [(0, (s 0)), (5, (s 5)), (8, (s 8)), (11, (s 11)), (103, (s 103)), (104, (s 104)), (105, (s 105)), (106, x1)]) 107 (s 105)) 108 x2) 109 x3) (looko ([].map fun n => (n, o n)))) 15 (some 15) ∧ V.refsL 15 [V.d (.int .i64 0), V.d (.str []), V.d (.int .i64 0)] = false ∧
storeK (V.ptr 15 0) (cellsV x3) 3 (upd (looko ([].map fun n => (n, o n))) 15 (some (Ob.box [V.d (.int .i64 0), V.d (.str []), V.d (.int .i64 0)]))) (fun m4 ob5 =>
wpB C I R_c4 (St.mk (look [(0, (s 0)), (5, (s 5)), (8, (s 8)), (11, (s 11)), (14, (s 105)), (15, (V.ptr 15 0)), (103, (s 103)), (104, (s 104)), (105, (s 105))]) (looko ([15].map fun n => (n, (upd (upd (looko ([].map fun n => (n, o n))) 15 (some (Ob.box [V.d (.int .i64 0), V.d (.str []), V.d (.int .i64 0)]))) m4 (some ob5)) n)))) (blockK 2 [0, 5, 8, 11, 103, 104, 105] (some []) (seqK (fun st => wpB C I R_c5 st (seqK (fun s => wpB C I R_l0 s Q) Q)) (seqK (fun s => wpB C I R_l0 s Q) Q))))))))
 (Q (.exit 1) (St.mk (look [(0, (s 0)), (5, (s 5)), (8, (s 8)), (11, (s 11)), (103, (s 103)), (104, (s 104)), (105, (s 105)), (106, x1)]) (looko ([].map fun n => (n, o n))))))) : wpB C I R_l0 (St.mk s o) Q := w_loopC hL h
theorem g_law07_LexJoins_c6_sh {C : Ctx} {I : Nat → Prop} {s : Nat → V} {o : Nat → Option Ob} {Q : Ex → St → Prop} : wpB C I (.seq (.region [0, 5, 11, 117, 118, 119, 139] (some []) (some ([0, 1, 2, 3, 4, 5, 6, 7, 8], .done))
    [⟨some 131, .mv (.t 11), [], [], none, none⟩,
     ⟨some 132, .mv (.t 5), [], [], none, none⟩,
     ⟨some 133, .len (.t 132), [], [1], none, none⟩,
     ⟨some 134, .mv (.t 16), [], [], none, none⟩,
     ⟨some 135, .bin .add (.t 133) (.t 134), [], [2, 3], none, none⟩,
     ⟨some 136, .iaddr 3 (.t 131) (.t 135), [], [0, 4], none, none⟩,
     ⟨some 137, .load (some 3) (.t 136), [], [5], none, none⟩,
     ⟨some 138, .load (some 3) (.t 17), [], [], none, none⟩,
     ⟨some 139, .eqs true [0, 2, 0] (.t 137) (.t 138), [], [6, 7], none, none⟩])
 (.cond (.t 139) (.seq (.region [4] (some []) none
      [⟨some 4, .mv (.c (.d (.bool false))), [], [], none, none⟩])
   (.ret))
  (.skip))) (St.mk s o) Q =
 ((s 131) = V.undef ∧ (quietV o ((s 11) :: [(s 11)]) ∧
(s 132) = V.undef ∧ (quietV o ((s 5) :: [(s 5)]) ∧
(s 133) = V.undef ∧ (demand (lenV o (s 5)) (fun x3 => quietV o (x3 :: [(s 5)]) ∧
(s 134) = V.undef ∧ (quietV o ((s 16) :: [(s 16)]) ∧
(s 135) = V.undef ∧ (demand (binV BinOp.add x3 (s 16)) (fun x5 => quietV o (x5 :: [x3, (s 16)]) ∧
(s 136) = V.undef ∧ (demand (iaddrV o 3 (s 11) x5) (fun x6 => quietV o (x6 :: [(s 11), x5]) ∧
(s 137) = V.undef ∧ (demand (loadV o (some 3) x6) (fun x7 => quietV o (x7 :: [x6]) ∧
(s 138) = V.undef ∧ (demand (loadV o (some 3) (s 17)) (fun x8 => quietV o (x8 :: [(s 17)]) ∧
(s 139) = V.undef ∧ (demand (eqsV true [0, 2, 0] x7 x8) (fun x9 => quietV o (x9 :: [x7, x8]) ∧
condK x9
 (Q .ret (St.mk (look [(4, (V.d (.bool false)))]) (looko ([].map fun n => (n, o n)))))
 (Q .normal (St.mk (look [(0, (s 0)), (5, (s 5)), (11, (s 11)), (117, (s 117)), (118, (s 118)), (119, (s 119)), (139, x9)]) (looko ([].map fun n => (n, o n))))))))))))))))))))) := rfl
theorem g_law07_LexJoins_c7_sh {R_c6 : ACode} {C : Ctx} {I : Nat → Prop} {s : Nat → V} {o : Nat → Option Ob} {Q : Ex → St → Prop} : wpB C I (.seq (.region [0, 5, 11, 16, 17, 117, 118, 119] (some [17]) none
    [⟨some 124, .faddr 2 (.t 17), [], [], none, none⟩,
     ⟨some 125, .load none (.t 124), [], [], none, none⟩,
     ⟨some 126, .mv (.t 0), [], [], none, none⟩,
     ⟨some 127, .lenS (.t 126), [], [], none, none⟩,
     ⟨some 128, .bin .add (.t 127) (.c (.d (.int .i64 1))), [], [], none, none⟩,
     ⟨some 129, .bin .add (.t 125) (.t 128), [], [], none, none⟩,
     ⟨some 130, .faddr 2 (.t 17), [], [], none, none⟩,
     ⟨none, .store 1 (.t 130) (.t 129), [], [], none, none⟩])
 (R_c6)) (St.mk s o) Q =
 (demand (faddrV 2 (s 17)) (fun x1 =>
demand (loadV o none x1) (fun x2 =>
demand (lenSV (s 0)) (fun x3 =>
demand (binV BinOp.add x3 (V.d (.int .i64 1))) (fun x4 =>
demand (binV BinOp.add x2 x4) (fun x5 =>
demand (faddrV 2 (s 17)) (fun x6 =>
storeK x6 (cellsV x5) 1 o (fun m7 ob8 =>
wpB C I R_c6 (St.mk (look [(0, (s 0)), (5, (s 5)), (11, (s 11)), (16, (s 16)), (17, (s 17)), (117, (s 117)), (118, (s 118)), (119, (s 119))]) (looko ([17].map fun n => (n, (upd o m7 (some ob8)) n)))) Q)))))))) := rfl
theorem g_law07_LexJoins_c8_sh {C : Ctx} {I : Nat → Prop} {s : Nat → V} {o : Nat → Option Ob} {Q : Ex → St → Prop} : wpB C I (.region [0, 5, 11, 117, 118, 119] (some []) none
   [⟨some 140, .bin .add (.t 119) (.c (.d (.int .i64 1))), [], [], none, none⟩,
    ⟨some 119, .mv (.t 140), [], [], none, none⟩]) (St.mk s o) Q =
 (demand (binV BinOp.add (s 119) (V.d (.int .i64 1))) (fun x1 =>
Q .normal (St.mk (look [(0, (s 0)), (5, (s 5)), (11, (s 11)), (117, (s 117)), (118, (s 118)), (119, x1)]) (looko ([].map fun n => (n, o n)))))) := rfl
theorem g_law07_LexJoins_l1_sh {R_l1 : ACode} {R_c7 : ACode} {R_c8 : ACode} {C : Ctx} {I : Nat → Prop} {s : Nat → V} {o : Nat → Option Ob} {Q : Ex → St → Prop} (hL : R_l1 = .loop [0, 5, 11, 117, 118, 119] (some []) (.seq (.region [0, 5, 11, 117, 118, 119, 120] (some []) none
     [⟨some 120, .bin .lss (.t 119) (.t 118), [], [], none, none⟩])
  (.seq (.cond (.t 120) (.skip)
    (.exit 3))
   (.seq (.block 4 [0, 5, 11, 117, 118, 119] (some []) (.seq (.region [0, 5, 11, 16, 17, 117, 118, 119] (some [17]) none
         [⟨some 121, .mv (.t 119), [], [], none, none⟩,
          ⟨some 122, .iaddr 3 (.t 117) (.t 119), [], [], none, none⟩,
          ⟨some 123, .load (some 3) (.t 122), [], [], none, none⟩,
          ⟨some 17, .alloc 17 [.d (.int .i64 0), .d (.str []), .d (.int .i64 0)], [], [], none, none⟩,
          ⟨some 16, .mv (.t 121), [], [], none, none⟩,
          ⟨none, .store 3 (.t 17) (.t 123), [], [], none, none⟩])
      (R_c7)))
    (R_c8)))))
 (h : demand (binV BinOp.lss (s 119) (s 118)) (fun x1 =>
condK x1
 (demand (iaddrV (looko ([].map fun n => (n, o n))) 3 (s 117) (s 119)) (fun x2 =>
demand (loadV (looko ([].map fun n => (n, o n))) (some 3) x2) (fun x3 =>
(¬ I 17 ∧ Fresh (St.mk (upd (upd (upd (look [(0, (s 0)), (5, (s 5)), (11, (s 11)), (117, (s 117)), (118, (s 118)), (119, (s 119)), (120, x1)]) 121 (s 119)) 122 x2) 123 x3) (looko ([].map fun n => (n, o n)))) 17 (some 17) ∧ V.refsL 17 [V.d (.int .i64 0), V.d (.str []), V.d (.int .i64 0)] = false ∧
storeK (V.ptr 17 0) (cellsV x3) 3 (upd (looko ([].map fun n => (n, o n))) 17 (some (Ob.box [V.d (.int .i64 0), V.d (.str []), V.d (.int .i64 0)]))) (fun m4 ob5 =>
wpB C I R_c7 (St.mk (look [(0, (s 0)), (5, (s 5)), (11, (s 11)), (16, (s 119)), (17, (V.ptr 17 0)), (117, (s 117)), (118, (s 118)), (119, (s 119))]) (looko ([17].map fun n => (n, (upd (upd (looko ([].map fun n => (n, o n))) 17 (some (Ob.box [V.d (.int .i64 0), V.d (.str []), V.d (.int .i64 0)]))) m4 (some ob5)) n)))) (blockK 4 [0, 5, 11, 117, 118, 119] (some []) (seqK (fun st => wpB C I R_c8 st (seqK (fun s => wpB C I R_l1 s Q) Q)) (seqK (fun s => wpB C I R_l1 s Q) Q))))))))
 (Q (.exit 3) (St.mk (look [(0, (s 0)), (5, (s 5)), (11, (s 11)), (117, (s 117)), (118, (s 118)), (119, (s 119)), (120, x1)]) (looko ([].map fun n => (n, o n))))))) : wpB C I R_l1 (St.mk s o) Q := w_loopC hL h
theorem g_law07_LexJoins_c9_sh {C : Ctx} {I : Nat → Prop} {s : Nat → V} {o : Nat → Option Ob} {Q : Ex → St → Prop} : wpB C I (.seq (.region [4] (some []) none
    [⟨some 141, .call 73 [], [], [], none, none⟩,
     ⟨some 4, .mv (.t 141), [], [], none, none⟩])
 (.ret)) (St.mk s o) Q =
 (callK C I (St.mk s o) (some 141) 73 [] (fun r1 or1 =>
Q .ret (St.mk (look [(4, r1)]) (looko ([].map fun n => (n, or1 n)))))) := rfl
theorem g_law07_LexJoins_c10_sh {R_l1 : ACode} {R_c9 : ACode} {C : Ctx} {I : Nat → Prop} {s : Nat → V} {o : Nat → Option Ob} {Q : Ex → St → Prop} : wpB C I (.seq (.seq (.region [0, 5, 11, 117, 118, 119] (some []) none
     [⟨some 117, .mv (.t 8), [], [], none, none⟩,
      ⟨some 118, .len (.t 117), [], [], none, none⟩,
      ⟨some 119, .mv (.c (.d (.int .i64 0))), [], [], none, none⟩])
  (.block 3 [] (some []) (R_l1)))
 (R_c9)) (St.mk s o) Q =
 (demand (lenV o (s 8)) (fun x1 =>
wpB C I R_l1 (St.mk (look [(0, (s 0)), (5, (s 5)), (11, (s 11)), (117, (s 8)), (118, x1), (119, (V.d (.int .i64 0)))]) (looko ([].map fun n => (n, o n)))) (blockK 3 [] (some []) (seqK (fun st => wpB C I R_c9 st Q) Q)))) := rfl
theorem g_law07_LexJoins_c11_sh {R_l0 : ACode} {R_c10 : ACode} {C : Ctx} {I : Nat → Prop} {s : Nat → V} {o : Nat → Option Ob} {Q : Ex → St → Prop} : wpB C I (.seq (.seq (.region [0, 5, 8, 11, 103, 104, 105] (some []) none
     [⟨some 103, .mv (.t 5), [], [], none, none⟩,
      ⟨some 104, .len (.t 103), [], [], none, none⟩,
      ⟨some 105, .mv (.c (.d (.int .i64 0))), [], [], none, none⟩])
  (.block 1 [0, 5, 8, 11] (some []) (R_l0)))
 (R_c10)) (St.mk s o) Q =
 (demand (lenV o (s 5)) (fun x1 =>
wpB C I R_l0 (St.mk (look [(0, (s 0)), (5, (s 5)), (8, (s 8)), (11, (s 11)), (103, (s 5)), (104, x1), (105, (V.d (.int .i64 0)))]) (looko ([].map fun n => (n, o n)))) (blockK 1 [0, 5, 8, 11] (some []) (seqK (fun st => wpB C I R_c10 st Q) Q)))) := rfl
theorem g_law07_LexJoins_c12_sh {R_o2 : List AOper} {R_c1 : ACode} {R_c11 : ACode} {R_o8 : List AOper} {R_c2 : ACode} {R_o14 : List AOper} {R_c3 : ACode} {C : Ctx} {I : Nat → Prop} {s : Nat → V} {o : Nat → Option Ob} {Q : Ex → St → Prop} : wpB C I (.seq (.block 0 [0, 5, 8, 11] (some []) (.seq (.region [0, 5, 6, 7, 8, 9, 10, 11, 12, 13, 48] (some []) none
      [⟨some 49, .mv (.t 7), [], [], none, none⟩,
       ⟨some 50, .bin .neq (.t 49) (.c (.d (.int .i64 0))), [], [], none, none⟩,
       ⟨some 48, .mv (.t 50), [], [], none, none⟩])
   (.cond (.t 48) (.seq (.region [4] (some []) none
        (⟨some 51, .mv (.t 13), [], [], none, none⟩ ::
         ⟨some 52, .mv (.t 7), [], [], none, none⟩ ::
         ⟨some 53, .bin .eql (.t 51) (.t 52), [], [], none, none⟩ ::
         ⟨some 54, .mv (.t 53), [], [], none, (some ([6, 11, 12, 54], (some [])))⟩ ::
         R_o2))
     (R_c1))
    (.seq (.region [0, 5, 8, 9, 10, 11, 12, 13, 67] (some []) none
        [⟨some 68, .mv (.t 10), [], [], none, none⟩,
         ⟨some 69, .bin .neq (.t 68) (.c (.d (.int .i64 0))), [], [], none, none⟩,
         ⟨some 67, .mv (.t 69), [], [], none, none⟩])
     (.cond (.t 67) (.seq (.region [4] (some []) none
          (⟨some 70, .mv (.t 13), [], [], none, none⟩ ::
           ⟨some 71, .mv (.t 10), [], [], none, none⟩ ::
           ⟨some 72, .bin .eql (.t 70) (.t 71), [], [], none, none⟩ ::
           ⟨some 73, .mv (.t 72), [], [], none, (some ([0, 9, 11, 12, 73], (some [])))⟩ ::
           R_o8))
       (R_c2))
      (.seq (.region [0, 5, 8, 11, 90] (some []) none
          (⟨some 91, .mv (.t 13), [], [], none, none⟩ ::
           ⟨some 92, .bin .neq (.t 91) (.c (.d (.int .i64 0))), [], [], none, none⟩ ::
           ⟨some 93, .mv (.t 92), [], [], none, (some ([0, 5, 8, 11, 93], (some [])))⟩ ::
           R_o14))
       (R_c3)))))))
 (R_c11)) (St.mk s o) Q =
 (demand (binV BinOp.neq (s 7) (V.d (.int .i64 0))) (fun x1 =>
condK x1
 (demand (binV BinOp.eql (s 13) (s 7)) (fun x2 =>
opsB C I R_o2 (St.mk (look [(6, (s 6)), (11, (s 11)), (12, (s 12)), (54, x2)]) (looko ([].map fun n => (n, o n)))) (fun st => (seqK (fun st => wpB C I R_c1 st (blockK 0 [0, 5, 8, 11] (some []) (seqK (fun st => wpB C I R_c11 st Q) Q))) (blockK 0 [0, 5, 8, 11] (some []) (seqK (fun st => wpB C I R_c11 st Q) Q))) .normal (St.trim st [4] (some [])))))
 (demand (binV BinOp.neq (s 10) (V.d (.int .i64 0))) (fun x3 =>
condK x3
 (demand (binV BinOp.eql (s 13) (s 10)) (fun x4 =>
opsB C I R_o8 (St.mk (look [(0, (s 0)), (9, (s 9)), (11, (s 11)), (12, (s 12)), (73, x4)]) (looko ([].map fun n => (n, o n)))) (fun st => (seqK (fun st => wpB C I R_c2 st (blockK 0 [0, 5, 8, 11] (some []) (seqK (fun st => wpB C I R_c11 st Q) Q))) (blockK 0 [0, 5, 8, 11] (some []) (seqK (fun st => wpB C I R_c11 st Q) Q))) .normal (St.trim st [4] (some [])))))
 (demand (binV BinOp.neq (s 13) (V.d (.int .i64 0))) (fun x5 =>
opsB C I R_o14 (St.mk (look [(0, (s 0)), (5, (s 5)), (8, (s 8)), (11, (s 11)), (93, x5)]) (looko ([].map fun n => (n, o n)))) (fun st => (seqK (fun st => wpB C I R_c3 st (blockK 0 [0, 5, 8, 11] (some []) (seqK (fun st => wpB C I R_c11 st Q) Q))) (blockK 0 [0, 5, 8, 11] (some []) (seqK (fun st => wpB C I R_c11 st Q) Q))) .normal (St.trim st [0, 5, 8, 11, 90] (some []))))))))) := rfl
theorem g_law07_LexJoins_c13_sh {R_c12 : ACode} {C : Ctx} {I : Nat → Prop} {s : Nat → V} {o : Nat → Option Ob} {Q : Ex → St → Prop} : wpB C I (.seq (.region [0, 5, 6, 7, 8, 9, 10, 11, 12, 13] (some []) none
    [⟨some 40, .mv (.t 0), [], [], none, none⟩,
     ⟨some 41, .bin .add (.t 40) (.c (.d (.str [10]))), [], [], none, none⟩,
     ⟨some 42, .mv (.t 1), [], [], none, none⟩,
     ⟨some 43, .bin .add (.t 41) (.t 42), [], [], none, none⟩,
     ⟨some 44, .call 74 [(.t 43)], [], [], none, none⟩,
     ⟨some 39, .mv (.t 44), [], [], none, none⟩,
     ⟨some 45, .ext (.t 39) 0, [], [], none, none⟩,
     ⟨some 46, .ext (.t 39) 1, [], [], none, none⟩,
     ⟨some 47, .ext (.t 39) 2, [], [], none, none⟩,
     ⟨some 11, .mv (.t 45), [], [], none, none⟩,
     ⟨some 12, .mv (.t 46), [], [], none, none⟩,
     ⟨some 13, .mv (.t 47), [], [], none, none⟩])
 (R_c12)) (St.mk s o) Q =
 (demand (binV BinOp.add (s 0) (V.d (.str [10]))) (fun x1 =>
demand (binV BinOp.add x1 (s 1)) (fun x2 =>
callK C I (St.mk (upd (upd (upd (upd s 40 (s 0)) 41 x1) 42 (s 1)) 43 x2) o) (some 44) 74 [x2] (fun r3 or3 =>
demand (extV r3 0) (fun x4 =>
demand (extV r3 1) (fun x5 =>
demand (extV r3 2) (fun x6 =>
wpB C I R_c12 (St.mk (look [(0, (s 0)), (5, (s 5)), (6, (s 6)), (7, (s 7)), (8, (s 8)), (9, (s 9)), (10, (s 10)), (11, x4), (12, x5), (13, x6)]) (looko ([].map fun n => (n, or3 n)))) Q))))))) := rfl
theorem g_law07_LexJoins_c14_sh {R_c13 : ACode} {C : Ctx} {I : Nat → Prop} {s : Nat → V} {o : Nat → Option Ob} {Q : Ex → St → Prop} : wpB C I (.seq (.region [0, 1, 5, 6, 7, 8, 9, 10] (some []) none
    [⟨some 34, .mv (.t 1), [], [], none, none⟩,
     ⟨some 35, .call 74 [(.t 34)], [], [], none, none⟩,
     ⟨some 33, .mv (.t 35), [], [], none, none⟩,
     ⟨some 36, .ext (.t 33) 0, [], [], none, none⟩,
     ⟨some 37, .ext (.t 33) 1, [], [], none, none⟩,
     ⟨some 38, .ext (.t 33) 2, [], [], none, none⟩,
     ⟨some 8, .mv (.t 36), [], [], none, none⟩,
     ⟨some 9, .mv (.t 37), [], [], none, none⟩,
     ⟨some 10, .mv (.t 38), [], [], none, none⟩])
 (R_c13)) (St.mk s o) Q =
 (callK C I (St.mk (upd s 34 (s 1)) o) (some 35) 74 [(s 1)] (fun r1 or1 =>
demand (extV r1 0) (fun x2 =>
demand (extV r1 1) (fun x3 =>
demand (extV r1 2) (fun x4 =>
wpB C I R_c13 (St.mk (look [(0, (s 0)), (1, (s 1)), (5, (s 5)), (6, (s 6)), (7, (s 7)), (8, x2), (9, x3), (10, x4)]) (looko ([].map fun n => (n, or1 n)))) Q))))) := rfl
theorem g_law07_LexJoins_c15_sh {R_c14 : ACode} {C : Ctx} {I : Nat → Prop} {s : Nat → V} {o : Nat → Option Ob} {Q : Ex → St → Prop} : wpB C I (.seq (.region [0, 1, 5, 6, 7] (some []) none
    [⟨some 28, .mv (.t 0), [], [], none, none⟩,
     ⟨some 29, .call 74 [(.t 28)], [], [], none, none⟩,
     ⟨some 27, .mv (.t 29), [], [], none, none⟩,
     ⟨some 30, .ext (.t 27) 0, [], [], none, none⟩,
     ⟨some 31, .ext (.t 27) 1, [], [], none, none⟩,
     ⟨some 32, .ext (.t 27) 2, [], [], none, none⟩,
     ⟨some 5, .mv (.t 30), [], [], none, none⟩,
     ⟨some 6, .mv (.t 31), [], [], none, none⟩,
     ⟨some 7, .mv (.t 32), [], [], none, none⟩])
 (R_c14)) (St.mk s o) Q =
 (callK C I (St.mk (upd s 28 (s 0)) o) (some 29) 74 [(s 0)] (fun r1 or1 =>
demand (extV r1 0) (fun x2 =>
demand (extV r1 1) (fun x3 =>
demand (extV r1 2) (fun x4 =>
wpB C I R_c14 (St.mk (look [(0, (s 0)), (1, (s 1)), (5, x2), (6, x3), (7, x4)]) (looko ([].map fun n => (n, or1 n)))) Q))))) := rfl
theorem g_law07_LexJoins_code_sh {R_o0 : List AOper} {R_c0 : ACode} {R_c15 : ACode} {C : Ctx} {I : Nat → Prop} {s : Nat → V} {o : Nat → Option Ob} {Q : Ex → St → Prop} : wpB C I (.seq (.region [0, 1] (some []) none
    [⟨some 4, .mv (.c (.d (.bool false))), [], [], none, none⟩])
 (.seq (.seq (.region [0, 1, 25] (some []) none
      (⟨some 18, .mv (.t 0), [], [], none, none⟩ ::
       ⟨some 19, .lenS (.t 18), [], [], none, none⟩ ::
       ⟨some 20, .bin .gtr (.t 19) (.c (.d (.int .i64 300))), [], [], none, none⟩ ::
       ⟨some 21, .mv (.t 20), [], [], none, (some ([0, 1, 21], (some [])))⟩ ::
       R_o0))
   (R_c0))
  (R_c15))) (St.mk s o) Q =
 (demand (lenSV (s 0)) (fun x1 =>
demand (binV BinOp.gtr x1 (V.d (.int .i64 300))) (fun x2 =>
opsB C I R_o0 (St.mk (look [(0, (s 0)), (1, (s 1)), (21, x2)]) (looko ([].map fun n => (n, o n)))) (fun st => (seqK (fun st => wpB C I R_c0 st (seqK (fun st => wpB C I R_c15 st Q) Q)) (seqK (fun st => wpB C I R_c15 st Q) Q)) .normal (St.trim st [0, 1, 25] (some [])))))) := rfl
theorem g_law07_LexKinds_o1_sh {C : Ctx} {I : Nat → Prop} {s : Nat → V} {o : Nat → Option Ob} {K : St → Prop} : opsB C I [⟨some 29, .pick (.t 27) (.t 28) (.c (.d (.bool false))), [], [], none, none⟩,
     ⟨some 2, .mv (.t 29), [], [], none, none⟩] (St.mk s o) K =
 (demand (pickV (s 27) (s 28) (V.d (.bool false))) (fun x1 =>
K (St.mk (upd (upd s 29 x1) 2 x1) o))) := rfl
theorem g_law07_LexKinds_o0_sh {R_o1 : List AOper} {C : Ctx} {I : Nat → Prop} {s : Nat → V} {o : Nat → Option Ob} {K : St → Prop} : opsB C I (⟨some 28, .call 73 [], [], [], (some (3, 27, true)), (some ([27, 28], (some [])))⟩ ::
     R_o1) (St.mk s o) K =
 (guardK (s 27) true
 (callK C I (St.mk (upd s 27 (V.d (D.bool true))) o) (some 28) 73 [] (fun r1 or1 =>
opsB C I R_o1 (St.mk (look [(27, (V.d (D.bool true))), (28, r1)]) (looko ([].map fun n => (n, or1 n)))) K))
 (opsB C I R_o1 (St.mk (look [(27, (V.d (D.bool false))), (28, (V.tup []))]) (looko ([].map fun n => (n, o n)))) K)
 (opsB C I R_o1 (St.mk (look [(27, (V.tup [])), (28, (V.tup []))]) (looko ([].map fun n => (n, o n)))) K)) := rfl
theorem g_law07_LexKinds_c0_sh {C : Ctx} {I : Nat → Prop} {s : Nat → V} {o : Nat → Option Ob} {Q : Ex → St → Prop} : wpB C I (.ret) (St.mk s o) Q =
 (Q .ret (St.mk s o)) := rfl
theorem g_law07_LexKinds_i42_sh {C : Ctx} {I : Nat → Prop} {s : Nat → V} {o : Nat → Option Ob} {K : St → Prop} : drawB C I g_law07_LexKinds.a2 (40 :: []) .done (St.mk s o) K =
 ((s 83) = V.undef ∧ (demand (pickV (s 77) (V.d (.bool true)) (s 82)) (fun x1 => quietV o (x1 :: [(s 77), (V.d (.bool true)), (s 82)]) ∧
treeB C I g_law07_LexKinds.a2 .done (St.mk (upd s 83 x1) o) K))) := rfl
theorem g_law07_LexKinds_i41_sh {R_i42 : List Nat} {C : Ctx} {I : Nat → Prop} {s : Nat → V} {o : Nat → Option Ob} {K : St → Prop} : drawB C I g_law07_LexKinds.a2 (39 :: R_i42) .done (St.mk s o) K =
 ((s 82) = V.undef ∧ guardK (s 77) false
 (demand (binV BinOp.neq (s 81) (V.d (.int .i64 0))) (fun x1 => quietV o (x1 :: [(s 81), (V.d (.int .i64 0))]) ∧
drawB C I g_law07_LexKinds.a2 R_i42 .done (St.mk (upd s 82 x1) o) K))
 (quietV o ((V.tup []) :: [(s 81), (V.d (.int .i64 0))]) ∧
drawB C I g_law07_LexKinds.a2 R_i42 .done (St.mk (upd s 82 (V.tup [])) o) K)
 (quietV o ((V.tup []) :: [(s 81), (V.d (.int .i64 0))]) ∧
drawB C I g_law07_LexKinds.a2 R_i42 .done (St.mk (upd s 82 (V.tup [])) o) K)) := rfl
theorem g_law07_LexKinds_i40_sh {R_i41 : List Nat} {C : Ctx} {I : Nat → Prop} {s : Nat → V} {o : Nat → Option Ob} {K : St → Prop} : drawB C I g_law07_LexKinds.a2 (38 :: R_i41) .done (St.mk s o) K =
 ((s 81) = V.undef ∧ guardK (s 77) false
 (demand (loadV o none (s 80)) (fun x1 => quietV o (x1 :: [(s 80)]) ∧
drawB C I g_law07_LexKinds.a2 R_i41 .done (St.mk (upd s 81 x1) o) K))
 (quietV o ((V.tup []) :: [(s 80)]) ∧
drawB C I g_law07_LexKinds.a2 R_i41 .done (St.mk (upd s 81 (V.tup [])) o) K)
 (quietV o ((V.tup []) :: [(s 80)]) ∧
drawB C I g_law07_LexKinds.a2 R_i41 .done (St.mk (upd s 81 (V.tup [])) o) K)) := rfl
theorem g_law07_LexKinds_i39_sh {R_i40 : List Nat} {C : Ctx} {I : Nat → Prop} {s : Nat → V} {o : Nat → Option Ob} {K : St → Prop} : drawB C I g_law07_LexKinds.a2 (37 :: R_i40) .done (St.mk s o) K =
 ((s 80) = V.undef ∧ guardK (s 77) false
 (demand (faddrV 2 (s 79)) (fun x1 => quietV o (x1 :: [(s 79)]) ∧
drawB C I g_law07_LexKinds.a2 R_i40 .done (St.mk (upd s 80 x1) o) K))
 (quietV o ((V.tup []) :: [(s 79)]) ∧
drawB C I g_law07_LexKinds.a2 R_i40 .done (St.mk (upd s 80 (V.tup [])) o) K)
 (quietV o ((V.tup []) :: [(s 79)]) ∧
drawB C I g_law07_LexKinds.a2 R_i40 .done (St.mk (upd s 80 (V.tup [])) o) K)) := rfl
theorem g_law07_LexKinds_i38_sh {R_i39 : List Nat} {C : Ctx} {I : Nat → Prop} {s : Nat → V} {o : Nat → Option Ob} {K : St → Prop} : drawB C I g_law07_LexKinds.a2 (36 :: R_i39) .done (St.mk s o) K =
 ((s 79) = V.undef ∧ guardK (s 77) false
 (demand (iaddrV o 3 (s 78) (V.d (.int .i64 0))) (fun x1 => quietV o (x1 :: [(s 78), (V.d (.int .i64 0))]) ∧
drawB C I g_law07_LexKinds.a2 R_i39 .done (St.mk (upd s 79 x1) o) K))
 (quietV o ((V.tup []) :: [(s 78), (V.d (.int .i64 0))]) ∧
drawB C I g_law07_LexKinds.a2 R_i39 .done (St.mk (upd s 79 (V.tup [])) o) K)
 (quietV o ((V.tup []) :: [(s 78), (V.d (.int .i64 0))]) ∧
drawB C I g_law07_LexKinds.a2 R_i39 .done (St.mk (upd s 79 (V.tup [])) o) K)) := rfl
theorem g_law07_LexKinds_i37_sh {R_i38 : List Nat} {C : Ctx} {I : Nat → Prop} {s : Nat → V} {o : Nat → Option Ob} {K : St → Prop} : drawB C I g_law07_LexKinds.a2 (35 :: R_i38) .done (St.mk s o) K =
 ((s 78) = V.undef ∧ guardK (s 77) false
 (quietV o ((s 8) :: [(s 8)]) ∧
drawB C I g_law07_LexKinds.a2 R_i38 .done (St.mk (upd s 78 (s 8)) o) K)
 (quietV o ((V.tup []) :: [(s 8)]) ∧
drawB C I g_law07_LexKinds.a2 R_i38 .done (St.mk (upd s 78 (V.tup [])) o) K)
 (quietV o ((V.tup []) :: [(s 8)]) ∧
drawB C I g_law07_LexKinds.a2 R_i38 .done (St.mk (upd s 78 (V.tup [])) o) K)) := rfl
theorem g_law07_LexKinds_i36_sh {R_i37 : List Nat} {C : Ctx} {I : Nat → Prop} {s : Nat → V} {o : Nat → Option Ob} {K : St → Prop} : drawB C I g_law07_LexKinds.a2 (34 :: R_i37) .done (St.mk s o) K =
 ((s 77) = V.undef ∧ (quietV o ((s 76) :: [(s 76)]) ∧
drawB C I g_law07_LexKinds.a2 R_i37 .done (St.mk (upd s 77 (s 76)) o) K)) := rfl
theorem g_law07_LexKinds_i35_sh {R_i36 : List Nat} {C : Ctx} {I : Nat → Prop} {s : Nat → V} {o : Nat → Option Ob} {K : St → Prop} : drawB C I g_law07_LexKinds.a2 (33 :: R_i36) .done (St.mk s o) K =
 ((s 76) = V.undef ∧ (demand (pickV (s 68) (V.d (.bool true)) (s 75)) (fun x1 => quietV o (x1 :: [(s 68), (V.d (.bool true)), (s 75)]) ∧
drawB C I g_law07_LexKinds.a2 R_i36 .done (St.mk (upd s 76 x1) o) K))) := rfl
theorem g_law07_LexKinds_i34_sh {R_i35 : List Nat} {C : Ctx} {I : Nat → Prop} {s : Nat → V} {o : Nat → Option Ob} {K : St → Prop} : drawB C I g_law07_LexKinds.a2 (32 :: R_i35) .done (St.mk s o) K =
 ((s 75) = V.undef ∧ guardK (s 68) false
 (demand (binV BinOp.neq (s 72) (s 74)) (fun x1 => quietV o (x1 :: [(s 72), (s 74)]) ∧
drawB C I g_law07_LexKinds.a2 R_i35 .done (St.mk (upd s 75 x1) o) K))
 (quietV o ((V.tup []) :: [(s 72), (s 74)]) ∧
drawB C I g_law07_LexKinds.a2 R_i35 .done (St.mk (upd s 75 (V.tup [])) o) K)
 (quietV o ((V.tup []) :: [(s 72), (s 74)]) ∧
drawB C I g_law07_LexKinds.a2 R_i35 .done (St.mk (upd s 75 (V.tup [])) o) K)) := rfl
theorem g_law07_LexKinds_i33_sh {R_i34 : List Nat} {C : Ctx} {I : Nat → Prop} {s : Nat → V} {o : Nat → Option Ob} {K : St → Prop} : drawB C I g_law07_LexKinds.a2 (31 :: R_i34) .done (St.mk s o) K =
 ((s 74) = V.undef ∧ guardK (s 68) false
 (demand (loadV o none (s 73)) (fun x1 => quietV o (x1 :: [(s 73)]) ∧
drawB C I g_law07_LexKinds.a2 R_i34 .done (St.mk (upd s 74 x1) o) K))
 (quietV o ((V.tup []) :: [(s 73)]) ∧
drawB C I g_law07_LexKinds.a2 R_i34 .done (St.mk (upd s 74 (V.tup [])) o) K)
 (quietV o ((V.tup []) :: [(s 73)]) ∧
drawB C I g_law07_LexKinds.a2 R_i34 .done (St.mk (upd s 74 (V.tup [])) o) K)) := rfl
theorem g_law07_LexKinds_i32_sh {R_i33 : List Nat} {C : Ctx} {I : Nat → Prop} {s : Nat → V} {o : Nat → Option Ob} {K : St → Prop} : drawB C I g_law07_LexKinds.a2 (30 :: R_i33) .done (St.mk s o) K =
 ((s 73) = V.undef ∧ guardK (s 68) false
 (demand (faddrV 1 (s 7)) (fun x1 => quietV o (x1 :: [(s 7)]) ∧
drawB C I g_law07_LexKinds.a2 R_i33 .done (St.mk (upd s 73 x1) o) K))
 (quietV o ((V.tup []) :: [(s 7)]) ∧
drawB C I g_law07_LexKinds.a2 R_i33 .done (St.mk (upd s 73 (V.tup [])) o) K)
 (quietV o ((V.tup []) :: [(s 7)]) ∧
drawB C I g_law07_LexKinds.a2 R_i33 .done (St.mk (upd s 73 (V.tup [])) o) K)) := rfl
theorem g_law07_LexKinds_i31_sh {R_i32 : List Nat} {C : Ctx} {I : Nat → Prop} {s : Nat → V} {o : Nat → Option Ob} {K : St → Prop} : drawB C I g_law07_LexKinds.a2 (29 :: R_i32) .done (St.mk s o) K =
 ((s 72) = V.undef ∧ guardK (s 68) false
 (demand (loadV o none (s 71)) (fun x1 => quietV o (x1 :: [(s 71)]) ∧
drawB C I g_law07_LexKinds.a2 R_i32 .done (St.mk (upd s 72 x1) o) K))
 (quietV o ((V.tup []) :: [(s 71)]) ∧
drawB C I g_law07_LexKinds.a2 R_i32 .done (St.mk (upd s 72 (V.tup [])) o) K)
 (quietV o ((V.tup []) :: [(s 71)]) ∧
drawB C I g_law07_LexKinds.a2 R_i32 .done (St.mk (upd s 72 (V.tup [])) o) K)) := rfl
theorem g_law07_LexKinds_i30_sh {R_i31 : List Nat} {C : Ctx} {I : Nat → Prop} {s : Nat → V} {o : Nat → Option Ob} {K : St → Prop} : drawB C I g_law07_LexKinds.a2 (28 :: R_i31) .done (St.mk s o) K =
 ((s 71) = V.undef ∧ guardK (s 68) false
 (demand (faddrV 1 (s 70)) (fun x1 => quietV o (x1 :: [(s 70)]) ∧
drawB C I g_law07_LexKinds.a2 R_i31 .done (St.mk (upd s 71 x1) o) K))
 (quietV o ((V.tup []) :: [(s 70)]) ∧
drawB C I g_law07_LexKinds.a2 R_i31 .done (St.mk (upd s 71 (V.tup [])) o) K)
 (quietV o ((V.tup []) :: [(s 70)]) ∧
drawB C I g_law07_LexKinds.a2 R_i31 .done (St.mk (upd s 71 (V.tup [])) o) K)) := rfl
theorem g_law07_LexKinds_i29_sh {R_i30 : List Nat} {C : Ctx} {I : Nat → Prop} {s : Nat → V} {o : Nat → Option Ob} {K : St → Prop} : drawB C I g_law07_LexKinds.a2 (27 :: R_i30) .done (St.mk s o) K =
 ((s 70) = V.undef ∧ guardK (s 68) false
 (demand (iaddrV o 3 (s 69) (V.d (.int .i64 0))) (fun x1 => quietV o (x1 :: [(s 69), (V.d (.int .i64 0))]) ∧
drawB C I g_law07_LexKinds.a2 R_i30 .done (St.mk (upd s 70 x1) o) K))
 (quietV o ((V.tup []) :: [(s 69), (V.d (.int .i64 0))]) ∧
drawB C I g_law07_LexKinds.a2 R_i30 .done (St.mk (upd s 70 (V.tup [])) o) K)
 (quietV o ((V.tup []) :: [(s 69), (V.d (.int .i64 0))]) ∧
drawB C I g_law07_LexKinds.a2 R_i30 .done (St.mk (upd s 70 (V.tup [])) o) K)) := rfl
theorem g_law07_LexKinds_i28_sh {R_i29 : List Nat} {C : Ctx} {I : Nat → Prop} {s : Nat → V} {o : Nat → Option Ob} {K : St → Prop} : drawB C I g_law07_LexKinds.a2 (26 :: R_i29) .done (St.mk s o) K =
 ((s 69) = V.undef ∧ guardK (s 68) false
 (quietV o ((s 8) :: [(s 8)]) ∧
drawB C I g_law07_LexKinds.a2 R_i29 .done (St.mk (upd s 69 (s 8)) o) K)
 (quietV o ((V.tup []) :: [(s 8)]) ∧
drawB C I g_law07_LexKinds.a2 R_i29 .done (St.mk (upd s 69 (V.tup [])) o) K)
 (quietV o ((V.tup []) :: [(s 8)]) ∧
drawB C I g_law07_LexKinds.a2 R_i29 .done (St.mk (upd s 69 (V.tup [])) o) K)) := rfl
theorem g_law07_LexKinds_i27_sh {R_i28 : List Nat} {C : Ctx} {I : Nat → Prop} {s : Nat → V} {o : Nat → Option Ob} {K : St → Prop} : drawB C I g_law07_LexKinds.a2 (25 :: R_i28) .done (St.mk s o) K =
 ((s 68) = V.undef ∧ (quietV o ((s 67) :: [(s 67)]) ∧
drawB C I g_law07_LexKinds.a2 R_i28 .done (St.mk (upd s 68 (s 67)) o) K)) := rfl
theorem g_law07_LexKinds_i26_sh {R_i27 : List Nat} {C : Ctx} {I : Nat → Prop} {s : Nat → V} {o : Nat → Option Ob} {K : St → Prop} : drawB C I g_law07_LexKinds.a2 (24 :: R_i27) .done (St.mk s o) K =
 ((s 67) = V.undef ∧ (demand (pickV (s 59) (V.d (.bool true)) (s 66)) (fun x1 => quietV o (x1 :: [(s 59), (V.d (.bool true)), (s 66)]) ∧
drawB C I g_law07_LexKinds.a2 R_i27 .done (St.mk (upd s 67 x1) o) K))) := rfl
theorem g_law07_LexKinds_i25_sh {R_i26 : List Nat} {C : Ctx} {I : Nat → Prop} {s : Nat → V} {o : Nat → Option Ob} {K : St → Prop} : drawB C I g_law07_LexKinds.a2 (23 :: R_i26) .done (St.mk s o) K =
 ((s 66) = V.undef ∧ guardK (s 59) false
 (demand (binV BinOp.neq (s 63) (s 65)) (fun x1 => quietV o (x1 :: [(s 63), (s 65)]) ∧
drawB C I g_law07_LexKinds.a2 R_i26 .done (St.mk (upd s 66 x1) o) K))
 (quietV o ((V.tup []) :: [(s 63), (s 65)]) ∧
drawB C I g_law07_LexKinds.a2 R_i26 .done (St.mk (upd s 66 (V.tup [])) o) K)
 (quietV o ((V.tup []) :: [(s 63), (s 65)]) ∧
drawB C I g_law07_LexKinds.a2 R_i26 .done (St.mk (upd s 66 (V.tup [])) o) K)) := rfl
theorem g_law07_LexKinds_i24_sh {R_i25 : List Nat} {C : Ctx} {I : Nat → Prop} {s : Nat → V} {o : Nat → Option Ob} {K : St → Prop} : drawB C I g_law07_LexKinds.a2 (22 :: R_i25) .done (St.mk s o) K =
 ((s 65) = V.undef ∧ guardK (s 59) false
 (demand (loadV o none (s 64)) (fun x1 => quietV o (x1 :: [(s 64)]) ∧
drawB C I g_law07_LexKinds.a2 R_i25 .done (St.mk (upd s 65 x1) o) K))
 (quietV o ((V.tup []) :: [(s 64)]) ∧
drawB C I g_law07_LexKinds.a2 R_i25 .done (St.mk (upd s 65 (V.tup [])) o) K)
 (quietV o ((V.tup []) :: [(s 64)]) ∧
drawB C I g_law07_LexKinds.a2 R_i25 .done (St.mk (upd s 65 (V.tup [])) o) K)) := rfl
theorem g_law07_LexKinds_i23_sh {R_i24 : List Nat} {C : Ctx} {I : Nat → Prop} {s : Nat → V} {o : Nat → Option Ob} {K : St → Prop} : drawB C I g_law07_LexKinds.a2 (21 :: R_i24) .done (St.mk s o) K =
 ((s 64) = V.undef ∧ guardK (s 59) false
 (demand (faddrV 0 (s 7)) (fun x1 => quietV o (x1 :: [(s 7)]) ∧
drawB C I g_law07_LexKinds.a2 R_i24 .done (St.mk (upd s 64 x1) o) K))
 (quietV o ((V.tup []) :: [(s 7)]) ∧
drawB C I g_law07_LexKinds.a2 R_i24 .done (St.mk (upd s 64 (V.tup [])) o) K)
 (quietV o ((V.tup []) :: [(s 7)]) ∧
drawB C I g_law07_LexKinds.a2 R_i24 .done (St.mk (upd s 64 (V.tup [])) o) K)) := rfl
theorem g_law07_LexKinds_i22_sh {R_i23 : List Nat} {C : Ctx} {I : Nat → Prop} {s : Nat → V} {o : Nat → Option Ob} {K : St → Prop} : drawB C I g_law07_LexKinds.a2 (20 :: R_i23) .done (St.mk s o) K =
 ((s 63) = V.undef ∧ guardK (s 59) false
 (demand (loadV o none (s 62)) (fun x1 => quietV o (x1 :: [(s 62)]) ∧
drawB C I g_law07_LexKinds.a2 R_i23 .done (St.mk (upd s 63 x1) o) K))
 (quietV o ((V.tup []) :: [(s 62)]) ∧
drawB C I g_law07_LexKinds.a2 R_i23 .done (St.mk (upd s 63 (V.tup [])) o) K)
 (quietV o ((V.tup []) :: [(s 62)]) ∧
drawB C I g_law07_LexKinds.a2 R_i23 .done (St.mk (upd s 63 (V.tup [])) o) K)) := rfl
theorem g_law07_LexKinds_i21_sh {R_i22 : List Nat} {C : Ctx} {I : Nat → Prop} {s : Nat → V} {o : Nat → Option Ob} {K : St → Prop} : drawB C I g_law07_LexKinds.a2 (19 :: R_i22) .done (St.mk s o) K =
 ((s 62) = V.undef ∧ guardK (s 59) false
 (demand (faddrV 0 (s 61)) (fun x1 => quietV o (x1 :: [(s 61)]) ∧
drawB C I g_law07_LexKinds.a2 R_i22 .done (St.mk (upd s 62 x1) o) K))
 (quietV o ((V.tup []) :: [(s 61)]) ∧
drawB C I g_law07_LexKinds.a2 R_i22 .done (St.mk (upd s 62 (V.tup [])) o) K)
 (quietV o ((V.tup []) :: [(s 61)]) ∧
drawB C I g_law07_LexKinds.a2 R_i22 .done (St.mk (upd s 62 (V.tup [])) o) K)) := rfl
theorem g_law07_LexKinds_i20_sh {R_i21 : List Nat} {C : Ctx} {I : Nat → Prop} {s : Nat → V} {o : Nat → Option Ob} {K : St → Prop} : drawB C I g_law07_LexKinds.a2 (18 :: R_i21) .done (St.mk s o) K =
 ((s 61) = V.undef ∧ guardK (s 59) false
 (demand (iaddrV o 3 (s 60) (V.d (.int .i64 0))) (fun x1 => quietV o (x1 :: [(s 60), (V.d (.int .i64 0))]) ∧
drawB C I g_law07_LexKinds.a2 R_i21 .done (St.mk (upd s 61 x1) o) K))
 (quietV o ((V.tup []) :: [(s 60), (V.d (.int .i64 0))]) ∧
drawB C I g_law07_LexKinds.a2 R_i21 .done (St.mk (upd s 61 (V.tup [])) o) K)
 (quietV o ((V.tup []) :: [(s 60), (V.d (.int .i64 0))]) ∧
drawB C I g_law07_LexKinds.a2 R_i21 .done (St.mk (upd s 61 (V.tup [])) o) K)) := rfl
theorem g_law07_LexKinds_i19_sh {R_i20 : List Nat} {C : Ctx} {I : Nat → Prop} {s : Nat → V} {o : Nat → Option Ob} {K : St → Prop} : drawB C I g_law07_LexKinds.a2 (17 :: R_i20) .done (St.mk s o) K =
 ((s 60) = V.undef ∧ guardK (s 59) false
 (quietV o ((s 8) :: [(s 8)]) ∧
drawB C I g_law07_LexKinds.a2 R_i20 .done (St.mk (upd s 60 (s 8)) o) K)
 (quietV o ((V.tup []) :: [(s 8)]) ∧
drawB C I g_law07_LexKinds.a2 R_i20 .done (St.mk (upd s 60 (V.tup [])) o) K)
 (quietV o ((V.tup []) :: [(s 8)]) ∧
drawB C I g_law07_LexKinds.a2 R_i20 .done (St.mk (upd s 60 (V.tup [])) o) K)) := rfl
theorem g_law07_LexKinds_i18_sh {R_i19 : List Nat} {C : Ctx} {I : Nat → Prop} {s : Nat → V} {o : Nat → Option Ob} {K : St → Prop} : drawB C I g_law07_LexKinds.a2 (16 :: R_i19) .done (St.mk s o) K =
 ((s 59) = V.undef ∧ (quietV o ((s 58) :: [(s 58)]) ∧
drawB C I g_law07_LexKinds.a2 R_i19 .done (St.mk (upd s 59 (s 58)) o) K)) := rfl
theorem g_law07_LexKinds_i17_sh {R_i18 : List Nat} {C : Ctx} {I : Nat → Prop} {s : Nat → V} {o : Nat → Option Ob} {K : St → Prop} : drawB C I g_law07_LexKinds.a2 (15 :: R_i18) .done (St.mk s o) K =
 ((s 58) = V.undef ∧ (demand (pickV (s 54) (V.d (.bool true)) (s 57)) (fun x1 => quietV o (x1 :: [(s 54), (V.d (.bool true)), (s 57)]) ∧
drawB C I g_law07_LexKinds.a2 R_i18 .done (St.mk (upd s 58 x1) o) K))) := rfl
theorem g_law07_LexKinds_i16_sh {R_i17 : List Nat} {C : Ctx} {I : Nat → Prop} {s : Nat → V} {o : Nat → Option Ob} {K : St → Prop} : drawB C I g_law07_LexKinds.a2 (14 :: R_i17) .done (St.mk s o) K =
 ((s 57) = V.undef ∧ guardK (s 54) false
 (demand (binV BinOp.neq (s 56) (V.d (.int .i64 1))) (fun x1 => quietV o (x1 :: [(s 56), (V.d (.int .i64 1))]) ∧
drawB C I g_law07_LexKinds.a2 R_i17 .done (St.mk (upd s 57 x1) o) K))
 (quietV o ((V.tup []) :: [(s 56), (V.d (.int .i64 1))]) ∧
drawB C I g_law07_LexKinds.a2 R_i17 .done (St.mk (upd s 57 (V.tup [])) o) K)
 (quietV o ((V.tup []) :: [(s 56), (V.d (.int .i64 1))]) ∧
drawB C I g_law07_LexKinds.a2 R_i17 .done (St.mk (upd s 57 (V.tup [])) o) K)) := rfl
theorem g_law07_LexKinds_i15_sh {R_i16 : List Nat} {C : Ctx} {I : Nat → Prop} {s : Nat → V} {o : Nat → Option Ob} {K : St → Prop} : drawB C I g_law07_LexKinds.a2 (13 :: R_i16) .done (St.mk s o) K =
 ((s 56) = V.undef ∧ guardK (s 54) false
 (demand (lenV o (s 55)) (fun x1 => quietV o (x1 :: [(s 55)]) ∧
drawB C I g_law07_LexKinds.a2 R_i16 .done (St.mk (upd s 56 x1) o) K))
 (quietV o ((V.tup []) :: [(s 55)]) ∧
drawB C I g_law07_LexKinds.a2 R_i16 .done (St.mk (upd s 56 (V.tup [])) o) K)
 (quietV o ((V.tup []) :: [(s 55)]) ∧
drawB C I g_law07_LexKinds.a2 R_i16 .done (St.mk (upd s 56 (V.tup [])) o) K)) := rfl
theorem g_law07_LexKinds_i14_sh {R_i15 : List Nat} {C : Ctx} {I : Nat → Prop} {s : Nat → V} {o : Nat → Option Ob} {K : St → Prop} : drawB C I g_law07_LexKinds.a2 (12 :: R_i15) .done (St.mk s o) K =
 ((s 55) = V.undef ∧ guardK (s 54) false
 (quietV o ((s 8) :: [(s 8)]) ∧
drawB C I g_law07_LexKinds.a2 R_i15 .done (St.mk (upd s 55 (s 8)) o) K)
 (quietV o ((V.tup []) :: [(s 8)]) ∧
drawB C I g_law07_LexKinds.a2 R_i15 .done (St.mk (upd s 55 (V.tup [])) o) K)
 (quietV o ((V.tup []) :: [(s 8)]) ∧
drawB C I g_law07_LexKinds.a2 R_i15 .done (St.mk (upd s 55 (V.tup [])) o) K)) := rfl
theorem g_law07_LexKinds_i13_sh {R_i14 : List Nat} {C : Ctx} {I : Nat → Prop} {s : Nat → V} {o : Nat → Option Ob} {K : St → Prop} : drawB C I g_law07_LexKinds.a2 (11 :: R_i14) .done (St.mk s o) K =
 ((s 54) = V.undef ∧ (quietV o ((s 53) :: [(s 53)]) ∧
drawB C I g_law07_LexKinds.a2 R_i14 .done (St.mk (upd s 54 (s 53)) o) K)) := rfl
theorem g_law07_LexKinds_i12_sh {R_i13 : List Nat} {C : Ctx} {I : Nat → Prop} {s : Nat → V} {o : Nat → Option Ob} {K : St → Prop} : drawB C I g_law07_LexKinds.a2 (10 :: R_i13) .done (St.mk s o) K =
 ((s 53) = V.undef ∧ (demand (pickV (s 50) (V.d (.bool true)) (s 52)) (fun x1 => quietV o (x1 :: [(s 50), (V.d (.bool true)), (s 52)]) ∧
drawB C I g_law07_LexKinds.a2 R_i13 .done (St.mk (upd s 53 x1) o) K))) := rfl
theorem g_law07_LexKinds_i11_sh {R_i12 : List Nat} {C : Ctx} {I : Nat → Prop} {s : Nat → V} {o : Nat → Option Ob} {K : St → Prop} : drawB C I g_law07_LexKinds.a2 (9 :: R_i12) .done (St.mk s o) K =
 ((s 52) = V.undef ∧ guardK (s 50) false
 (demand (binV BinOp.neq (s 51) (V.d (.int .i64 0))) (fun x1 => quietV o (x1 :: [(s 51), (V.d (.int .i64 0))]) ∧
drawB C I g_law07_LexKinds.a2 R_i12 .done (St.mk (upd s 52 x1) o) K))
 (quietV o ((V.tup []) :: [(s 51), (V.d (.int .i64 0))]) ∧
drawB C I g_law07_LexKinds.a2 R_i12 .done (St.mk (upd s 52 (V.tup [])) o) K)
 (quietV o ((V.tup []) :: [(s 51), (V.d (.int .i64 0))]) ∧
drawB C I g_law07_LexKinds.a2 R_i12 .done (St.mk (upd s 52 (V.tup [])) o) K)) := rfl
theorem g_law07_LexKinds_i10_sh {R_i11 : List Nat} {C : Ctx} {I : Nat → Prop} {s : Nat → V} {o : Nat → Option Ob} {K : St → Prop} : drawB C I g_law07_LexKinds.a2 (8 :: R_i11) .done (St.mk s o) K =
 ((s 51) = V.undef ∧ guardK (s 50) false
 (quietV o ((s 9) :: [(s 9)]) ∧
drawB C I g_law07_LexKinds.a2 R_i11 .done (St.mk (upd s 51 (s 9)) o) K)
 (quietV o ((V.tup []) :: [(s 9)]) ∧
drawB C I g_law07_LexKinds.a2 R_i11 .done (St.mk (upd s 51 (V.tup [])) o) K)
 (quietV o ((V.tup []) :: [(s 9)]) ∧
drawB C I g_law07_LexKinds.a2 R_i11 .done (St.mk (upd s 51 (V.tup [])) o) K)) := rfl
theorem g_law07_LexKinds_i9_sh {R_i10 : List Nat} {C : Ctx} {I : Nat → Prop} {s : Nat → V} {o : Nat → Option Ob} {K : St → Prop} : drawB C I g_law07_LexKinds.a2 (7 :: R_i10) .done (St.mk s o) K =
 ((s 50) = V.undef ∧ (quietV o ((s 49) :: [(s 49)]) ∧
drawB C I g_law07_LexKinds.a2 R_i10 .done (St.mk (upd s 50 (s 49)) o) K)) := rfl
theorem g_law07_LexKinds_i8_sh {R_i9 : List Nat} {C : Ctx} {I : Nat → Prop} {s : Nat → V} {o : Nat → Option Ob} {K : St → Prop} : drawB C I g_law07_LexKinds.a2 (6 :: R_i9) .done (St.mk s o) K =
 ((s 49) = V.undef ∧ (demand (pickV (s 46) (V.d (.bool true)) (s 48)) (fun x1 => quietV o (x1 :: [(s 46), (V.d (.bool true)), (s 48)]) ∧
drawB C I g_law07_LexKinds.a2 R_i9 .done (St.mk (upd s 49 x1) o) K))) := rfl
theorem g_law07_LexKinds_i7_sh {R_i8 : List Nat} {C : Ctx} {I : Nat → Prop} {s : Nat → V} {o : Nat → Option Ob} {K : St → Prop} : drawB C I g_law07_LexKinds.a2 (5 :: R_i8) .done (St.mk s o) K =
 ((s 48) = V.undef ∧ guardK (s 46) false
 (demand (binV BinOp.neq (s 47) (V.d (.int .i64 0))) (fun x1 => quietV o (x1 :: [(s 47), (V.d (.int .i64 0))]) ∧
drawB C I g_law07_LexKinds.a2 R_i8 .done (St.mk (upd s 48 x1) o) K))
 (quietV o ((V.tup []) :: [(s 47), (V.d (.int .i64 0))]) ∧
drawB C I g_law07_LexKinds.a2 R_i8 .done (St.mk (upd s 48 (V.tup [])) o) K)
 (quietV o ((V.tup []) :: [(s 47), (V.d (.int .i64 0))]) ∧
drawB C I g_law07_LexKinds.a2 R_i8 .done (St.mk (upd s 48 (V.tup [])) o) K)) := rfl
theorem g_law07_LexKinds_i6_sh {R_i7 : List Nat} {C : Ctx} {I : Nat → Prop} {s : Nat → V} {o : Nat → Option Ob} {K : St → Prop} : drawB C I g_law07_LexKinds.a2 (4 :: R_i7) .done (St.mk s o) K =
 ((s 47) = V.undef ∧ guardK (s 46) false
 (quietV o ((s 10) :: [(s 10)]) ∧
drawB C I g_law07_LexKinds.a2 R_i7 .done (St.mk (upd s 47 (s 10)) o) K)
 (quietV o ((V.tup []) :: [(s 10)]) ∧
drawB C I g_law07_LexKinds.a2 R_i7 .done (St.mk (upd s 47 (V.tup [])) o) K)
 (quietV o ((V.tup []) :: [(s 10)]) ∧
drawB C I g_law07_LexKinds.a2 R_i7 .done (St.mk (upd s 47 (V.tup [])) o) K)) := rfl
theorem g_law07_LexKinds_i5_sh {R_i6 : List Nat} {C : Ctx} {I : Nat → Prop} {s : Nat → V} {o : Nat → Option Ob} {K : St → Prop} : drawB C I g_law07_LexKinds.a2 (3 :: R_i6) .done (St.mk s o) K =
 ((s 46) = V.undef ∧ (quietV o ((s 45) :: [(s 45)]) ∧
drawB C I g_law07_LexKinds.a2 R_i6 .done (St.mk (upd s 46 (s 45)) o) K)) := rfl
theorem g_law07_LexKinds_i4_sh {R_i5 : List Nat} {C : Ctx} {I : Nat → Prop} {s : Nat → V} {o : Nat → Option Ob} {K : St → Prop} : drawB C I g_law07_LexKinds.a2 (2 :: R_i5) .done (St.mk s o) K =
 ((s 45) = V.undef ∧ (demand (binV BinOp.eql (s 44) (V.d (.str []))) (fun x1 => quietV o (x1 :: [(s 44), (V.d (.str []))]) ∧
drawB C I g_law07_LexKinds.a2 R_i5 .done (St.mk (upd s 45 x1) o) K))) := rfl
theorem g_law07_LexKinds_i3_sh {R_i4 : List Nat} {C : Ctx} {I : Nat → Prop} {s : Nat → V} {o : Nat → Option Ob} {K : St → Prop} : drawB C I g_law07_LexKinds.a2 (1 :: R_i4) .done (St.mk s o) K =
 ((s 44) = V.undef ∧ (demand (loadV o none (s 43)) (fun x1 => quietV o (x1 :: [(s 43)]) ∧
drawB C I g_law07_LexKinds.a2 R_i4 .done (St.mk (upd s 44 x1) o) K))) := rfl
theorem g_law07_LexKinds_c1_sh {C : Ctx} {I : Nat → Prop} {s : Nat → V} {o : Nat → Option Ob} {Q : Ex → St → Prop} : wpB C I (.cond (.t 83) (.seq (.region [2] (some []) none
     [⟨some 2, .mv (.c (.d (.bool false))), [], [], none, none⟩])
  (.ret))
 (.skip)) (St.mk s o) Q =
 (condK (s 83)
 (Q .ret (St.mk (look [(2, (V.d (.bool false)))]) (looko ([].map fun n => (n, o n)))))
 (Q .normal (St.mk s o))) := rfl
theorem g_law07_LexKinds_o56_sh {C : Ctx} {I : Nat → Prop} {s : Nat → V} {o : Nat → Option Ob} {K : St → Prop} : opsB C I [⟨some 128, .pick (.t 118) (.c (.d (.bool true))) (.t 127), [], [], none, none⟩] (St.mk s o) K =
 (demand (pickV (s 118) (V.d (.bool true)) (s 127)) (fun x1 =>
K (St.mk (upd s 128 x1) o))) := rfl
theorem g_law07_LexKinds_o55_sh {R_o56 : List AOper} {C : Ctx} {I : Nat → Prop} {s : Nat → V} {o : Nat → Option Ob} {K : St → Prop} : opsB C I (⟨some 127, .pick (.t 122) (.t 126) (.c (.d (.bool false))), [], [], (some (31, 118, false)), (some ([30, 31, 32, 118, 127], (some [])))⟩ ::
     R_o56) (St.mk s o) K =
 (guardK (s 118) false
 (demand (pickV (s 122) (s 126) (V.d (.bool false))) (fun x1 =>
opsB C I R_o56 (St.mk (look [(30, (s 30)), (31, (s 31)), (32, (s 32)), (118, (V.d (D.bool false))), (127, x1)]) (looko ([].map fun n => (n, o n)))) K))
 (opsB C I R_o56 (St.mk (look [(30, (s 30)), (31, (s 31)), (32, (s 32)), (118, (V.d (D.bool true))), (127, (V.tup []))]) (looko ([].map fun n => (n, o n)))) K)
 (opsB C I R_o56 (St.mk (look [(30, (s 30)), (31, (s 31)), (32, (s 32)), (118, (V.tup [])), (127, (V.tup []))]) (looko ([].map fun n => (n, o n)))) K)) := rfl
theorem g_law07_LexKinds_o54_sh {R_o55 : List AOper} {C : Ctx} {I : Nat → Prop} {s : Nat → V} {o : Nat → Option Ob} {K : St → Prop} : opsB C I (⟨some 123, .faddr 1 (.t 7), [], [], (some (35, 122, true)), none⟩ ::
     ⟨some 124, .load none (.t 123), [], [], (some (35, 122, true)), none⟩ ::
     ⟨some 125, .lenS (.t 124), [], [], (some (35, 122, true)), none⟩ ::
     ⟨some 126, .bin .gtr (.t 125) (.c (.d (.int .i64 12))), [], [], (some (35, 122, true)), (some ([30, 31, 32, 118, 122, 126], (some [])))⟩ ::
     R_o55) (St.mk s o) K =
 (guardK (s 122) true
 (demand (faddrV 1 (s 7)) (fun x1 =>
demand (loadV o none x1) (fun x2 =>
demand (lenSV x2) (fun x3 =>
demand (binV BinOp.gtr x3 (V.d (.int .i64 12))) (fun x4 =>
opsB C I R_o55 (St.mk (look [(30, (s 30)), (31, (s 31)), (32, (s 32)), (118, (s 118)), (122, (V.d (D.bool true))), (126, x4)]) (looko ([].map fun n => (n, o n)))) K)))))
 (opsB C I R_o55 (St.mk (look [(30, (s 30)), (31, (s 31)), (32, (s 32)), (118, (s 118)), (122, (V.d (D.bool false))), (126, (V.tup []))]) (looko ([].map fun n => (n, o n)))) K)
 (opsB C I R_o55 (St.mk (look [(30, (s 30)), (31, (s 31)), (32, (s 32)), (118, (s 118)), (122, (V.tup [])), (126, (V.tup []))]) (looko ([].map fun n => (n, o n)))) K)) := rfl
theorem g_law07_LexKinds_o53_sh {R_o54 : List AOper} {C : Ctx} {I : Nat → Prop} {s : Nat → V} {o : Nat → Option Ob} {K : St → Prop} : opsB C I (⟨some 119, .faddr 0 (.t 7), [], [], (some (31, 118, false)), none⟩ ::
     ⟨some 120, .load none (.t 119), [], [], (some (31, 118, false)), none⟩ ::
     ⟨some 121, .bin .eql (.t 120) (.c (.d (.int .i64 1))), [], [], (some (31, 118, false)), none⟩ ::
     ⟨some 122, .mv (.t 121), [], [], (some (31, 118, false)), (some ([7, 30, 31, 32, 118, 122], (some [7])))⟩ ::
     R_o54) (St.mk s o) K =
 (guardK (s 118) false
 (demand (faddrV 0 (s 7)) (fun x1 =>
demand (loadV o none x1) (fun x2 =>
demand (binV BinOp.eql x2 (V.d (.int .i64 1))) (fun x3 =>
opsB C I R_o54 (St.mk (look [(7, (s 7)), (30, (s 30)), (31, (s 31)), (32, (s 32)), (118, (V.d (D.bool false))), (122, x3)]) (looko ([7].map fun n => (n, o n)))) K))))
 (opsB C I R_o54 (St.mk (look [(7, (s 7)), (30, (s 30)), (31, (s 31)), (32, (s 32)), (118, (V.d (D.bool true))), (122, (V.tup []))]) (looko ([7].map fun n => (n, o n)))) K)
 (opsB C I R_o54 (St.mk (look [(7, (s 7)), (30, (s 30)), (31, (s 31)), (32, (s 32)), (118, (V.tup [])), (122, (V.tup []))]) (looko ([7].map fun n => (n, o n)))) K)) := rfl
theorem g_law07_LexKinds_o52_sh {R_o53 : List AOper} {C : Ctx} {I : Nat → Prop} {s : Nat → V} {o : Nat → Option Ob} {K : St → Prop} : opsB C I (⟨some 117, .pick (.t 97) (.c (.d (.bool true))) (.t 116), [], [], none, none⟩ ::
     ⟨some 118, .mv (.t 117), [], [], none, (some ([7, 30, 31, 32, 118], (some [7])))⟩ ::
     R_o53) (St.mk s o) K =
 (demand (pickV (s 97) (V.d (.bool true)) (s 116)) (fun x1 =>
opsB C I R_o53 (St.mk (look [(7, (s 7)), (30, (s 30)), (31, (s 31)), (32, (s 32)), (118, x1)]) (looko ([7].map fun n => (n, o n)))) K)) := rfl
theorem g_law07_LexKinds_o51_sh {R_o52 : List AOper} {C : Ctx} {I : Nat → Prop} {s : Nat → V} {o : Nat → Option Ob} {K : St → Prop} : opsB C I (⟨some 114, .pick (.t 107) (.c (.d (.bool true))) (.t 113), [], [], (some (10, 97, false)), none⟩ ::
     ⟨some 115, .un .not (.t 114), [], [], (some (10, 97, false)), none⟩ ::
     ⟨some 116, .beq true (.t 100) (.t 115), [], [], (some (10, 97, false)), (some ([7, 30, 31, 32, 97, 116], (some [7])))⟩ ::
     R_o52) (St.mk s o) K =
 (guardK (s 97) false
 (demand (pickV (s 107) (V.d (.bool true)) (s 113)) (fun x1 =>
demand (unV UnOp.not x1) (fun x2 =>
demand (beqV true (s 100) x2) (fun x3 =>
opsB C I R_o52 (St.mk (look [(7, (s 7)), (30, (s 30)), (31, (s 31)), (32, (s 32)), (97, (V.d (D.bool false))), (116, x3)]) (looko ([7].map fun n => (n, o n)))) K))))
 (opsB C I R_o52 (St.mk (look [(7, (s 7)), (30, (s 30)), (31, (s 31)), (32, (s 32)), (97, (V.d (D.bool true))), (116, (V.tup []))]) (looko ([7].map fun n => (n, o n)))) K)
 (opsB C I R_o52 (St.mk (look [(7, (s 7)), (30, (s 30)), (31, (s 31)), (32, (s 32)), (97, (V.tup [])), (116, (V.tup []))]) (looko ([7].map fun n => (n, o n)))) K)) := rfl
theorem g_law07_LexKinds_o50_sh {R_o51 : List AOper} {C : Ctx} {I : Nat → Prop} {s : Nat → V} {o : Nat → Option Ob} {K : St → Prop} : opsB C I (⟨some 113, .pick (.t 110) (.t 112) (.c (.d (.bool false))), [], [], (some (20, 107, false)), (some ([7, 30, 31, 32, 97, 100, 107, 113], (some [7])))⟩ ::
     R_o51) (St.mk s o) K =
 (guardK (s 107) false
 (demand (pickV (s 110) (s 112) (V.d (.bool false))) (fun x1 =>
opsB C I R_o51 (St.mk (look [(7, (s 7)), (30, (s 30)), (31, (s 31)), (32, (s 32)), (97, (s 97)), (100, (s 100)), (107, (V.d (D.bool false))), (113, x1)]) (looko ([7].map fun n => (n, o n)))) K))
 (opsB C I R_o51 (St.mk (look [(7, (s 7)), (30, (s 30)), (31, (s 31)), (32, (s 32)), (97, (s 97)), (100, (s 100)), (107, (V.d (D.bool true))), (113, (V.tup []))]) (looko ([7].map fun n => (n, o n)))) K)
 (opsB C I R_o51 (St.mk (look [(7, (s 7)), (30, (s 30)), (31, (s 31)), (32, (s 32)), (97, (s 97)), (100, (s 100)), (107, (V.tup [])), (113, (V.tup []))]) (looko ([7].map fun n => (n, o n)))) K)) := rfl
theorem g_law07_LexKinds_o49_sh {R_o50 : List AOper} {C : Ctx} {I : Nat → Prop} {s : Nat → V} {o : Nat → Option Ob} {K : St → Prop} : opsB C I (⟨some 111, .mv (.t 11), [], [], (some (23, 110, true)), none⟩ ::
     ⟨some 112, .bin .leq (.t 111) (.c (.d (.int .u8 57))), [], [], (some (23, 110, true)), (some ([7, 30, 31, 32, 97, 100, 107, 110, 112], (some [7])))⟩ ::
     R_o50) (St.mk s o) K =
 (guardK (s 110) true
 (demand (binV BinOp.leq (s 11) (V.d (.int .u8 57))) (fun x1 =>
opsB C I R_o50 (St.mk (look [(7, (s 7)), (30, (s 30)), (31, (s 31)), (32, (s 32)), (97, (s 97)), (100, (s 100)), (107, (s 107)), (110, (V.d (D.bool true))), (112, x1)]) (looko ([7].map fun n => (n, o n)))) K))
 (opsB C I R_o50 (St.mk (look [(7, (s 7)), (30, (s 30)), (31, (s 31)), (32, (s 32)), (97, (s 97)), (100, (s 100)), (107, (s 107)), (110, (V.d (D.bool false))), (112, (V.tup []))]) (looko ([7].map fun n => (n, o n)))) K)
 (opsB C I R_o50 (St.mk (look [(7, (s 7)), (30, (s 30)), (31, (s 31)), (32, (s 32)), (97, (s 97)), (100, (s 100)), (107, (s 107)), (110, (V.tup [])), (112, (V.tup []))]) (looko ([7].map fun n => (n, o n)))) K)) := rfl
theorem g_law07_LexKinds_o48_sh {R_o49 : List AOper} {C : Ctx} {I : Nat → Prop} {s : Nat → V} {o : Nat → Option Ob} {K : St → Prop} : opsB C I (⟨some 108, .mv (.t 11), [], [], (some (20, 107, false)), none⟩ ::
     ⟨some 109, .bin .geq (.t 108) (.c (.d (.int .u8 48))), [], [], (some (20, 107, false)), none⟩ ::
     ⟨some 110, .mv (.t 109), [], [], (some (20, 107, false)), (some ([7, 11, 30, 31, 32, 97, 100, 107, 110], (some [7])))⟩ ::
     R_o49) (St.mk s o) K =
 (guardK (s 107) false
 (demand (binV BinOp.geq (s 11) (V.d (.int .u8 48))) (fun x1 =>
opsB C I R_o49 (St.mk (look [(7, (s 7)), (11, (s 11)), (30, (s 30)), (31, (s 31)), (32, (s 32)), (97, (s 97)), (100, (s 100)), (107, (V.d (D.bool false))), (110, x1)]) (looko ([7].map fun n => (n, o n)))) K))
 (opsB C I R_o49 (St.mk (look [(7, (s 7)), (11, (s 11)), (30, (s 30)), (31, (s 31)), (32, (s 32)), (97, (s 97)), (100, (s 100)), (107, (V.d (D.bool true))), (110, (V.tup []))]) (looko ([7].map fun n => (n, o n)))) K)
 (opsB C I R_o49 (St.mk (look [(7, (s 7)), (11, (s 11)), (30, (s 30)), (31, (s 31)), (32, (s 32)), (97, (s 97)), (100, (s 100)), (107, (V.tup [])), (110, (V.tup []))]) (looko ([7].map fun n => (n, o n)))) K)) := rfl
theorem g_law07_LexKinds_o47_sh {R_o48 : List AOper} {C : Ctx} {I : Nat → Prop} {s : Nat → V} {o : Nat → Option Ob} {K : St → Prop} : opsB C I (⟨some 106, .pick (.t 103) (.t 105) (.c (.d (.bool false))), [], [], (some (10, 97, false)), none⟩ ::
     ⟨some 107, .mv (.t 106), [], [], (some (10, 97, false)), (some ([7, 11, 30, 31, 32, 97, 100, 107], (some [7])))⟩ ::
     R_o48) (St.mk s o) K =
 (guardK (s 97) false
 (demand (pickV (s 103) (s 105) (V.d (.bool false))) (fun x1 =>
opsB C I R_o48 (St.mk (look [(7, (s 7)), (11, (s 11)), (30, (s 30)), (31, (s 31)), (32, (s 32)), (97, (V.d (D.bool false))), (100, (s 100)), (107, x1)]) (looko ([7].map fun n => (n, o n)))) K))
 (opsB C I R_o48 (St.mk (look [(7, (s 7)), (11, (s 11)), (30, (s 30)), (31, (s 31)), (32, (s 32)), (97, (V.d (D.bool true))), (100, (s 100)), (107, (V.tup []))]) (looko ([7].map fun n => (n, o n)))) K)
 (opsB C I R_o48 (St.mk (look [(7, (s 7)), (11, (s 11)), (30, (s 30)), (31, (s 31)), (32, (s 32)), (97, (V.tup [])), (100, (s 100)), (107, (V.tup []))]) (looko ([7].map fun n => (n, o n)))) K)) := rfl
theorem g_law07_LexKinds_o46_sh {R_o47 : List AOper} {C : Ctx} {I : Nat → Prop} {s : Nat → V} {o : Nat → Option Ob} {K : St → Prop} : opsB C I (⟨some 104, .mv (.t 11), [], [], (some (16, 103, true)), none⟩ ::
     ⟨some 105, .bin .leq (.t 104) (.c (.d (.int .u8 122))), [], [], (some (16, 103, true)), (some ([7, 11, 30, 31, 32, 97, 100, 103, 105], (some [7])))⟩ ::
     R_o47) (St.mk s o) K =
 (guardK (s 103) true
 (demand (binV BinOp.leq (s 11) (V.d (.int .u8 122))) (fun x1 =>
opsB C I R_o47 (St.mk (look [(7, (s 7)), (11, (s 11)), (30, (s 30)), (31, (s 31)), (32, (s 32)), (97, (s 97)), (100, (s 100)), (103, (V.d (D.bool true))), (105, x1)]) (looko ([7].map fun n => (n, o n)))) K))
 (opsB C I R_o47 (St.mk (look [(7, (s 7)), (11, (s 11)), (30, (s 30)), (31, (s 31)), (32, (s 32)), (97, (s 97)), (100, (s 100)), (103, (V.d (D.bool false))), (105, (V.tup []))]) (looko ([7].map fun n => (n, o n)))) K)
 (opsB C I R_o47 (St.mk (look [(7, (s 7)), (11, (s 11)), (30, (s 30)), (31, (s 31)), (32, (s 32)), (97, (s 97)), (100, (s 100)), (103, (V.tup [])), (105, (V.tup []))]) (looko ([7].map fun n => (n, o n)))) K)) := rfl
theorem g_law07_LexKinds_o45_sh {R_o46 : List AOper} {C : Ctx} {I : Nat → Prop} {s : Nat → V} {o : Nat → Option Ob} {K : St → Prop} : opsB C I (⟨some 98, .faddr 0 (.t 7), [], [], (some (10, 97, false)), none⟩ ::
     ⟨some 99, .load none (.t 98), [], [], (some (10, 97, false)), none⟩ ::
     ⟨some 100, .bin .eql (.t 99) (.c (.d (.int .i64 5))), [], [], (some (10, 97, false)), none⟩ ::
     ⟨some 101, .mv (.t 11), [], [], (some (10, 97, false)), none⟩ ::
     ⟨some 102, .bin .geq (.t 101) (.c (.d (.int .u8 97))), [], [], (some (10, 97, false)), none⟩ ::
     ⟨some 103, .mv (.t 102), [], [], (some (10, 97, false)), (some ([7, 11, 30, 31, 32, 97, 100, 103], (some [7])))⟩ ::
     R_o46) (St.mk s o) K =
 (guardK (s 97) false
 (demand (faddrV 0 (s 7)) (fun x1 =>
demand (loadV o none x1) (fun x2 =>
demand (binV BinOp.eql x2 (V.d (.int .i64 5))) (fun x3 =>
demand (binV BinOp.geq (s 11) (V.d (.int .u8 97))) (fun x4 =>
opsB C I R_o46 (St.mk (look [(7, (s 7)), (11, (s 11)), (30, (s 30)), (31, (s 31)), (32, (s 32)), (97, (V.d (D.bool false))), (100, x3), (103, x4)]) (looko ([7].map fun n => (n, o n)))) K)))))
 (opsB C I R_o46 (St.mk (look [(7, (s 7)), (11, (s 11)), (30, (s 30)), (31, (s 31)), (32, (s 32)), (97, (V.d (D.bool true))), (100, (V.tup [])), (103, (V.tup []))]) (looko ([7].map fun n => (n, o n)))) K)
 (opsB C I R_o46 (St.mk (look [(7, (s 7)), (11, (s 11)), (30, (s 30)), (31, (s 31)), (32, (s 32)), (97, (V.tup [])), (100, (V.tup [])), (103, (V.tup []))]) (looko ([7].map fun n => (n, o n)))) K)) := rfl
theorem g_law07_LexKinds_o44_sh {R_o45 : List AOper} {C : Ctx} {I : Nat → Prop} {s : Nat → V} {o : Nat → Option Ob} {K : St → Prop} : opsB C I (⟨some 95, .pick (.t 92) (.t 94) (.c (.d (.bool false))), [], [], none, none⟩ ::
     ⟨some 96, .beq true (.t 89) (.t 95), [], [], none, none⟩ ::
     ⟨some 97, .mv (.t 96), [], [], none, (some ([7, 11, 30, 31, 32, 97], (some [7])))⟩ ::
     R_o45) (St.mk s o) K =
 (demand (pickV (s 92) (s 94) (V.d (.bool false))) (fun x1 =>
demand (beqV true (s 89) x1) (fun x2 =>
opsB C I R_o45 (St.mk (look [(7, (s 7)), (11, (s 11)), (30, (s 30)), (31, (s 31)), (32, (s 32)), (97, x2)]) (looko ([7].map fun n => (n, o n)))) K))) := rfl
theorem g_law07_LexKinds_o43_sh {R_o44 : List AOper} {C : Ctx} {I : Nat → Prop} {s : Nat → V} {o : Nat → Option Ob} {K : St → Prop} : opsB C I (⟨some 93, .mv (.t 11), [], [], (some (5, 92, true)), none⟩ ::
     ⟨some 94, .bin .leq (.t 93) (.c (.d (.int .u8 122))), [], [], (some (5, 92, true)), (some ([7, 11, 30, 31, 32, 89, 92, 94], (some [7])))⟩ ::
     R_o44) (St.mk s o) K =
 (guardK (s 92) true
 (demand (binV BinOp.leq (s 11) (V.d (.int .u8 122))) (fun x1 =>
opsB C I R_o44 (St.mk (look [(7, (s 7)), (11, (s 11)), (30, (s 30)), (31, (s 31)), (32, (s 32)), (89, (s 89)), (92, (V.d (D.bool true))), (94, x1)]) (looko ([7].map fun n => (n, o n)))) K))
 (opsB C I R_o44 (St.mk (look [(7, (s 7)), (11, (s 11)), (30, (s 30)), (31, (s 31)), (32, (s 32)), (89, (s 89)), (92, (V.d (D.bool false))), (94, (V.tup []))]) (looko ([7].map fun n => (n, o n)))) K)
 (opsB C I R_o44 (St.mk (look [(7, (s 7)), (11, (s 11)), (30, (s 30)), (31, (s 31)), (32, (s 32)), (89, (s 89)), (92, (V.tup [])), (94, (V.tup []))]) (looko ([7].map fun n => (n, o n)))) K)) := rfl
theorem g_law07_LexKinds_c2_sh {C : Ctx} {I : Nat → Prop} {s : Nat → V} {o : Nat → Option Ob} {Q : Ex → St → Prop} : wpB C I (.cond (.t 128) (.seq (.region [2] (some []) none
     [⟨some 2, .mv (.c (.d (.bool false))), [], [], none, none⟩])
  (.ret))
 (.skip)) (St.mk s o) Q =
 (condK (s 128)
 (Q .ret (St.mk (look [(2, (V.d (.bool false)))]) (looko ([].map fun n => (n, o n)))))
 (Q .normal (St.mk s o))) := rfl
theorem g_law07_LexKinds_c3_sh {R_o43 : List AOper} {R_c2 : ACode} {C : Ctx} {I : Nat → Prop} {s : Nat → V} {o : Nat → Option Ob} {Q : Ex → St → Prop} : wpB C I (.seq (.region [30, 31, 32, 128] (some []) none
    (⟨some 87, .faddr 0 (.t 7), [], [], none, none⟩ ::
     ⟨some 88, .load none (.t 87), [], [], none, none⟩ ::
     ⟨some 89, .bin .eql (.t 88) (.c (.d (.int .i64 1))), [], [], none, none⟩ ::
     ⟨some 90, .mv (.t 11), [], [], none, none⟩ ::
     ⟨some 91, .bin .geq (.t 90) (.c (.d (.int .u8 97))), [], [], none, none⟩ ::
     ⟨some 92, .mv (.t 91), [], [], none, (some ([7, 11, 30, 31, 32, 89, 92], (some [7])))⟩ ::
     R_o43))
 (R_c2)) (St.mk s o) Q =
 (demand (faddrV 0 (s 7)) (fun x1 =>
demand (loadV o none x1) (fun x2 =>
demand (binV BinOp.eql x2 (V.d (.int .i64 1))) (fun x3 =>
demand (binV BinOp.geq (s 11) (V.d (.int .u8 97))) (fun x4 =>
opsB C I R_o43 (St.mk (look [(7, (s 7)), (11, (s 11)), (30, (s 30)), (31, (s 31)), (32, (s 32)), (89, x3), (92, x4)]) (looko ([7].map fun n => (n, o n)))) (fun st => (seqK (fun st => wpB C I R_c2 st Q) Q) .normal (St.trim st [30, 31, 32, 128] (some [])))))))) := rfl
theorem g_law07_LexKinds_c4_sh {R_c3 : ACode} {C : Ctx} {I : Nat → Prop} {s : Nat → V} {o : Nat → Option Ob} {Q : Ex → St → Prop} : wpB C I (.seq (.region [7, 11, 30, 31, 32] (some [7]) none
    [⟨some 84, .faddr 1 (.t 7), [], [], none, none⟩,
     ⟨some 85, .load none (.t 84), [], [], none, none⟩,
     ⟨some 86, .idx (.t 85) (.c (.d (.int .i64 0))), [], [], none, none⟩,
     ⟨some 11, .mv (.t 86), [], [], none, none⟩])
 (R_c3)) (St.mk s o) Q =
 (demand (faddrV 1 (s 7)) (fun x1 =>
demand (loadV o none x1) (fun x2 =>
demand (idxV x2 (V.d (.int .i64 0))) (fun x3 =>
wpB C I R_c3 (St.mk (look [(7, (s 7)), (11, x3), (30, (s 30)), (31, (s 31)), (32, (s 32))]) (looko ([7].map fun n => (n, o n)))) Q)))) := rfl
theorem g_law07_LexKinds_c5_sh {R_i3 : List Nat} {R_c1 : ACode} {R_c4 : ACode} {C : Ctx} {I : Nat → Prop} {s : Nat → V} {o : Nat → Option Ob} {Q : Ex → St → Prop} : wpB C I (.seq (.seq (.region [7, 30, 31, 32, 83] (some [7]) (some (0 :: R_i3, .done)) g_law07_LexKinds.a2)
  (R_c1))
 (R_c4)) (St.mk s o) Q =
 ((s 43) = V.undef ∧ (demand (faddrV 1 (s 7)) (fun x1 => quietV o (x1 :: [(s 7)]) ∧
drawB C I g_law07_LexKinds.a2 R_i3 .done (St.mk (upd s 43 x1) o) (fun st => (seqK (fun st => wpB C I R_c1 st (seqK (fun st => wpB C I R_c4 st Q) Q)) (seqK (fun st => wpB C I R_c4 st Q) Q)) .normal (St.trim st [7, 30, 31, 32, 83] (some [7])))))) := rfl
theorem g_law07_LexKinds_c6_sh {R_c5 : ACode} {C : Ctx} {I : Nat → Prop} {s : Nat → V} {o : Nat → Option Ob} {Q : Ex → St → Prop} : wpB C I (.seq (.region [7, 8, 9, 10, 30, 31, 32] (some [7]) none
    [⟨some 37, .faddr 1 (.t 7), [], [], none, none⟩,
     ⟨some 38, .load none (.t 37), [], [], none, none⟩,
     ⟨some 39, .call 74 [(.t 38)], [], [], none, none⟩,
     ⟨some 36, .mv (.t 39), [], [], none, none⟩,
     ⟨some 40, .ext (.t 36) 0, [], [], none, none⟩,
     ⟨some 41, .ext (.t 36) 1, [], [], none, none⟩,
     ⟨some 42, .ext (.t 36) 2, [], [], none, none⟩,
     ⟨some 8, .mv (.t 40), [], [], none, none⟩,
     ⟨some 9, .mv (.t 41), [], [], none, none⟩,
     ⟨some 10, .mv (.t 42), [], [], none, none⟩])
 (R_c5)) (St.mk s o) Q =
 (demand (faddrV 1 (s 7)) (fun x1 =>
demand (loadV o none x1) (fun x2 =>
callK C I (St.mk (upd (upd s 37 x1) 38 x2) o) (some 39) 74 [x2] (fun r3 or3 =>
demand (extV r3 0) (fun x4 =>
demand (extV r3 1) (fun x5 =>
demand (extV r3 2) (fun x6 =>
wpB C I R_c5 (St.mk (look [(7, (s 7)), (8, x4), (9, x5), (10, x6), (30, (s 30)), (31, (s 31)), (32, (s 32))]) (looko ([7].map fun n => (n, or3 n)))) Q))))))) := rfl
theorem g_law07_LexKinds_c7_sh {C : Ctx} {I : Nat → Prop} {s : Nat → V} {o : Nat → Option Ob} {Q : Ex → St → Prop} : wpB C I (.region [30, 31, 32] (some []) none
   [⟨some 129, .bin .add (.t 32) (.c (.d (.int .i64 1))), [], [], none, none⟩,
    ⟨some 32, .mv (.t 129), [], [], none, none⟩]) (St.mk s o) Q =
 (demand (binV BinOp.add (s 32) (V.d (.int .i64 1))) (fun x1 =>
Q .normal (St.mk (look [(30, (s 30)), (31, (s 31)), (32, x1)]) (looko ([].map fun n => (n, o n)))))) := rfl
theorem g_law07_LexKinds_l0_sh {R_l0 : ACode} {R_c6 : ACode} {R_c7 : ACode} {C : Ctx} {I : Nat → Prop} {s : Nat → V} {o : Nat → Option Ob} {Q : Ex → St → Prop} (hL : R_l0 = .loop [30, 31, 32] (some []) (.seq (.region [30, 31, 32, 33] (some []) none
     [⟨some 33, .bin .lss (.t 32) (.t 31), [], [], none, none⟩])
  (.seq (.cond (.t 33) (.skip)
    (.exit 0))
   (.seq (.block 1 [30, 31, 32] (some []) (.seq (.region [7, 30, 31, 32] (some [7]) none
         [⟨some 34, .iaddr 3 (.t 30) (.t 32), [], [], none, none⟩,
          ⟨some 35, .load (some 3) (.t 34), [], [], none, none⟩,
          ⟨some 7, .alloc 7 [.d (.int .i64 0), .d (.str []), .d (.int .i64 0)], [], [], none, none⟩,
          ⟨none, .store 3 (.t 7) (.t 35), [], [], none, none⟩])
      (R_c6)))
    (R_c7)))))
 (h : demand (binV BinOp.lss (s 32) (s 31)) (fun x1 =>
condK x1
 (demand (iaddrV (looko ([].map fun n => (n, o n))) 3 (s 30) (s 32)) (fun x2 =>
demand (loadV (looko ([].map fun n => (n, o n))) (some 3) x2) (fun x3 =>
(¬ I 7 ∧ Fresh (St.mk (upd (upd (look [(30, (s 30)), (31, (s 31)), (32, (s 32)), (33, x1)]) 34 x2) 35 x3) (looko ([].map fun n => (n, o n)))) 7 (some 7) ∧ V.refsL 7 [V.d (.int .i64 0), V.d (.str []), V.d (.int .i64 0)] = false ∧
storeK (V.ptr 7 0) (cellsV x3) 3 (upd (looko ([].map fun n => (n, o n))) 7 (some (Ob.box [V.d (.int .i64 0), V.d (.str []), V.d (.int .i64 0)]))) (fun m4 ob5 =>
wpB C I R_c6 (St.mk (look [(7, (V.ptr 7 0)), (30, (s 30)), (31, (s 31)), (32, (s 32))]) (looko ([7].map fun n => (n, (upd (upd (looko ([].map fun n => (n, o n))) 7 (some (Ob.box [V.d (.int .i64 0), V.d (.str []), V.d (.int .i64 0)]))) m4 (some ob5)) n)))) (blockK 1 [30, 31, 32] (some []) (seqK (fun st => wpB C I R_c7 st (seqK (fun s => wpB C I R_l0 s Q) Q)) (seqK (fun s => wpB C I R_l0 s Q) Q))))))))
 (Q (.exit 0) (St.mk (look [(30, (s 30)), (31, (s 31)), (32, (s 32)), (33, x1)]) (looko ([].map fun n => (n, o n))))))) : wpB C I R_l0 (St.mk s o) Q := w_loopC hL h
theorem g_law07_LexKinds_c8_sh {C : Ctx} {I : Nat → Prop} {s : Nat → V} {o : Nat → Option Ob} {Q : Ex → St → Prop} : wpB C I (.seq (.region [2] (some []) none
    [⟨some 130, .call 73 [], [], [], none, none⟩,
     ⟨some 2, .mv (.t 130), [], [], none, none⟩])
 (.ret)) (St.mk s o) Q =
 (callK C I (St.mk s o) (some 130) 73 [] (fun r1 or1 =>
Q .ret (St.mk (look [(2, r1)]) (looko ([].map fun n => (n, or1 n)))))) := rfl
theorem g_law07_LexKinds_c9_sh {R_l0 : ACode} {R_c8 : ACode} {C : Ctx} {I : Nat → Prop} {s : Nat → V} {o : Nat → Option Ob} {Q : Ex → St → Prop} : wpB C I (.seq (.seq (.region [30, 31, 32] (some []) none
     [⟨some 30, .mv (.t 3), [], [], none, none⟩,
      ⟨some 31, .len (.t 30), [], [], none, none⟩,
      ⟨some 32, .mv (.c (.d (.int .i64 0))), [], [], none, none⟩])
  (.block 0 [] (some []) (R_l0)))
 (R_c8)) (St.mk s o) Q =
 (demand (lenV o (s 3)) (fun x1 =>
wpB C I R_l0 (St.mk (look [(30, (s 3)), (31, x1), (32, (V.d (.int .i64 0)))]) (looko ([].map fun n => (n, o n)))) (blockK 0 [] (some []) (seqK (fun st => wpB C I R_c8 st Q) Q)))) := rfl
theorem g_law07_LexKinds_c10_sh {R_o0 : List AOper} {R_c0 : ACode} {R_c9 : ACode} {C : Ctx} {I : Nat → Prop} {s : Nat → V} {o : Nat → Option Ob} {Q : Ex → St → Prop} : wpB C I (.seq (.seq (.region [3, 23] (some []) none
     [⟨some 22, .mv (.t 5), [], [], none, none⟩,
      ⟨some 23, .bin .neq (.t 22) (.c (.d (.int .i64 0))), [], [], none, none⟩])
  (.cond (.t 23) (.seq (.region [2] (some []) none
       (⟨some 24, .mv (.t 3), [], [], none, none⟩ ::
        ⟨some 25, .len (.t 24), [], [], none, none⟩ ::
        ⟨some 26, .bin .eql (.t 25) (.c (.d (.int .i64 0))), [], [], none, none⟩ ::
        ⟨some 27, .mv (.t 26), [], [], none, (some ([27], (some [])))⟩ ::
        R_o0))
    (R_c0))
   (.skip)))
 (R_c9)) (St.mk s o) Q =
 (demand (binV BinOp.neq (s 5) (V.d (.int .i64 0))) (fun x1 =>
condK x1
 (demand (lenV (looko ([].map fun n => (n, o n))) (s 3)) (fun x2 =>
demand (binV BinOp.eql x2 (V.d (.int .i64 0))) (fun x3 =>
opsB C I R_o0 (St.mk (look [(27, x3)]) (looko ([].map fun n => (n, o n)))) (fun st => (seqK (fun st => wpB C I R_c0 st (seqK (fun st => wpB C I R_c9 st Q) Q)) (seqK (fun st => wpB C I R_c9 st Q) Q)) .normal (St.trim st [2] (some []))))))
 (wpB C I R_c9 (St.mk (look [(3, (s 3)), (23, x1)]) (looko ([].map fun n => (n, o n)))) Q))) := rfl
theorem g_law07_LexKinds_c11_sh {R_c10 : ACode} {C : Ctx} {I : Nat → Prop} {s : Nat → V} {o : Nat → Option Ob} {Q : Ex → St → Prop} : wpB C I (.seq (.region [3, 5] (some []) none
    [⟨some 17, .mv (.t 0), [], [], none, none⟩,
     ⟨some 18, .call 74 [(.t 17)], [], [], none, none⟩,
     ⟨some 16, .mv (.t 18), [], [], none, none⟩,
     ⟨some 19, .ext (.t 16) 0, [], [], none, none⟩,
     ⟨some 20, .ext (.t 16) 1, [], [], none, none⟩,
     ⟨some 21, .ext (.t 16) 2, [], [], none, none⟩,
     ⟨some 3, .mv (.t 19), [], [], none, none⟩,
     ⟨some 4, .mv (.t 20), [], [], none, none⟩,
     ⟨some 5, .mv (.t 21), [], [], none, none⟩])
 (R_c10)) (St.mk s o) Q =
 (callK C I (St.mk (upd s 17 (s 0)) o) (some 18) 74 [(s 0)] (fun r1 or1 =>
demand (extV r1 0) (fun x2 =>
demand (extV r1 1) (fun x3 =>
demand (extV r1 2) (fun x4 =>
wpB C I R_c10 (St.mk (look [(3, x2), (5, x4)]) (looko ([].map fun n => (n, or1 n)))) Q))))) := rfl
theorem g_law07_LexKinds_code_sh {R_c11 : ACode} {C : Ctx} {I : Nat → Prop} {s : Nat → V} {o : Nat → Option Ob} {Q : Ex → St → Prop} : wpB C I (.seq (.region [0] (some []) none
    [⟨some 2, .mv (.c (.d (.bool false))), [], [], none, none⟩])
 (.seq (.seq (.region [0, 14] (some []) none
      [⟨some 12, .mv (.t 0), [], [], none, none⟩,
       ⟨some 13, .lenS (.t 12), [], [], none, none⟩,
       ⟨some 14, .bin .gtr (.t 13) (.c (.d (.int .i64 600))), [], [], none, none⟩])
   (.cond (.t 14) (.seq (.region [2] (some []) none
        [⟨some 15, .call 73 [], [], [], none, none⟩,
         ⟨some 2, .mv (.t 15), [], [], none, none⟩])
     (.ret))
    (.skip)))
  (R_c11))) (St.mk s o) Q =
 (demand (lenSV (s 0)) (fun x1 =>
demand (binV BinOp.gtr x1 (V.d (.int .i64 600))) (fun x2 =>
condK x2
 (callK C I (St.mk (look [(0, (s 0)), (14, x2)]) (looko ([].map fun n => (n, o n)))) (some 15) 73 [] (fun r3 or3 =>
Q .ret (St.mk (look [(2, r3)]) (looko ([].map fun n => (n, or3 n))))))
 (wpB C I R_c11 (St.mk (look [(0, (s 0)), (14, x2)]) (looko ([].map fun n => (n, o n)))) Q)))) := rfl
theorem g_law07_awake_o9_sh {C : Ctx} {I : Nat → Prop} {s : Nat → V} {o : Nat → Option Ob} {K : St → Prop} : opsB C I [⟨some 45, .pick (.t 42) (.t 44) (.c (.d (.bool false))), [], [], none, none⟩,
     ⟨some 46, .mv (.t 45), [], [], none, none⟩,
     ⟨some 47, .pick (.t 46) (.c (.d (.bool true))) (.c (.d (.bool false))), [], [], none, none⟩,
     ⟨some 48, .mv (.t 47), [], [], none, none⟩,
     ⟨some 49, .pick (.t 48) (.c (.d (.bool true))) (.c (.d (.bool false))), [], [], none, none⟩,
     ⟨some 50, .mv (.t 49), [], [], none, none⟩,
     ⟨some 51, .pick (.t 50) (.c (.d (.bool true))) (.c (.d (.bool false))), [], [], none, none⟩,
     ⟨some 52, .mv (.t 51), [], [], none, none⟩,
     ⟨some 53, .pick (.t 52) (.c (.d (.bool true))) (.c (.d (.bool false))), [], [], none, none⟩,
     ⟨some 0, .mv (.t 53), [], [], none, none⟩] (St.mk s o) K =
 (demand (pickV (s 42) (s 44) (V.d (.bool false))) (fun x1 =>
demand (pickV x1 (V.d (.bool true)) (V.d (.bool false))) (fun x2 =>
demand (pickV x2 (V.d (.bool true)) (V.d (.bool false))) (fun x3 =>
demand (pickV x3 (V.d (.bool true)) (V.d (.bool false))) (fun x4 =>
demand (pickV x4 (V.d (.bool true)) (V.d (.bool false))) (fun x5 =>
K (St.mk (upd (upd (upd (upd (upd (upd (upd (upd (upd (upd s 45 x1) 46 x1) 47 x2) 48 x2) 49 x3) 50 x3) 51 x4) 52 x4) 53 x5) 0 x5) o))))))) := rfl
theorem g_law07_awake_o8_sh {R_o9 : List AOper} {C : Ctx} {I : Nat → Prop} {s : Nat → V} {o : Nat → Option Ob} {K : St → Prop} : opsB C I (⟨some 43, .mv (.t 6), [], [], (some (25, 42, true)), none⟩ ::
     ⟨some 44, .bin .eql (.t 43) (.c (.d (.int .i64 2))), [], [], (some (25, 42, true)), (some ([42, 44], (some [])))⟩ ::
     R_o9) (St.mk s o) K =
 (guardK (s 42) true
 (demand (binV BinOp.eql (s 6) (V.d (.int .i64 2))) (fun x1 =>
opsB C I R_o9 (St.mk (look [(42, (V.d (D.bool true))), (44, x1)]) (looko ([].map fun n => (n, o n)))) K))
 (opsB C I R_o9 (St.mk (look [(42, (V.d (D.bool false))), (44, (V.tup []))]) (looko ([].map fun n => (n, o n)))) K)
 (opsB C I R_o9 (St.mk (look [(42, (V.tup [])), (44, (V.tup []))]) (looko ([].map fun n => (n, o n)))) K)) := rfl
theorem g_law07_awake_o7_sh {R_o8 : List AOper} {C : Ctx} {I : Nat → Prop} {s : Nat → V} {o : Nat → Option Ob} {K : St → Prop} : opsB C I (⟨some 41, .pick (.t 38) (.t 40) (.c (.d (.bool false))), [], [], none, none⟩ ::
     ⟨some 42, .mv (.t 41), [], [], none, (some ([6, 42], (some [])))⟩ ::
     R_o8) (St.mk s o) K =
 (demand (pickV (s 38) (s 40) (V.d (.bool false))) (fun x1 =>
opsB C I R_o8 (St.mk (look [(6, (s 6)), (42, x1)]) (looko ([].map fun n => (n, o n)))) K)) := rfl
theorem g_law07_awake_o6_sh {R_o7 : List AOper} {C : Ctx} {I : Nat → Prop} {s : Nat → V} {o : Nat → Option Ob} {K : St → Prop} : opsB C I (⟨some 39, .mv (.t 5), [], [], (some (21, 38, true)), none⟩ ::
     ⟨some 40, .bin .eql (.t 39) (.c (.d (.int .i64 3))), [], [], (some (21, 38, true)), (some ([6, 38, 40], (some [])))⟩ ::
     R_o7) (St.mk s o) K =
 (guardK (s 38) true
 (demand (binV BinOp.eql (s 5) (V.d (.int .i64 3))) (fun x1 =>
opsB C I R_o7 (St.mk (look [(6, (s 6)), (38, (V.d (D.bool true))), (40, x1)]) (looko ([].map fun n => (n, o n)))) K))
 (opsB C I R_o7 (St.mk (look [(6, (s 6)), (38, (V.d (D.bool false))), (40, (V.tup []))]) (looko ([].map fun n => (n, o n)))) K)
 (opsB C I R_o7 (St.mk (look [(6, (s 6)), (38, (V.tup [])), (40, (V.tup []))]) (looko ([].map fun n => (n, o n)))) K)) := rfl
theorem g_law07_awake_o5_sh {R_o6 : List AOper} {C : Ctx} {I : Nat → Prop} {s : Nat → V} {o : Nat → Option Ob} {K : St → Prop} : opsB C I (⟨some 37, .pick (.t 34) (.t 36) (.c (.d (.bool false))), [], [], none, none⟩ ::
     ⟨some 38, .mv (.t 37), [], [], none, (some ([5, 6, 38], (some [])))⟩ ::
     R_o6) (St.mk s o) K =
 (demand (pickV (s 34) (s 36) (V.d (.bool false))) (fun x1 =>
opsB C I R_o6 (St.mk (look [(5, (s 5)), (6, (s 6)), (38, x1)]) (looko ([].map fun n => (n, o n)))) K)) := rfl
theorem g_law07_awake_o4_sh {R_o5 : List AOper} {C : Ctx} {I : Nat → Prop} {s : Nat → V} {o : Nat → Option Ob} {K : St → Prop} : opsB C I (⟨some 35, .mv (.t 3), [], [], (some (17, 34, true)), none⟩ ::
     ⟨some 36, .bin .eql (.t 35) (.c (.d (.int .i64 0))), [], [], (some (17, 34, true)), (some ([5, 6, 34, 36], (some [])))⟩ ::
     R_o5) (St.mk s o) K =
 (guardK (s 34) true
 (demand (binV BinOp.eql (s 3) (V.d (.int .i64 0))) (fun x1 =>
opsB C I R_o5 (St.mk (look [(5, (s 5)), (6, (s 6)), (34, (V.d (D.bool true))), (36, x1)]) (looko ([].map fun n => (n, o n)))) K))
 (opsB C I R_o5 (St.mk (look [(5, (s 5)), (6, (s 6)), (34, (V.d (D.bool false))), (36, (V.tup []))]) (looko ([].map fun n => (n, o n)))) K)
 (opsB C I R_o5 (St.mk (look [(5, (s 5)), (6, (s 6)), (34, (V.tup [])), (36, (V.tup []))]) (looko ([].map fun n => (n, o n)))) K)) := rfl
theorem g_law07_awake_o3_sh {R_o4 : List AOper} {C : Ctx} {I : Nat → Prop} {s : Nat → V} {o : Nat → Option Ob} {K : St → Prop} : opsB C I (⟨some 33, .pick (.t 27) (.t 32) (.c (.d (.bool false))), [], [], none, none⟩ ::
     ⟨some 34, .mv (.t 33), [], [], none, (some ([3, 5, 6, 34], (some [])))⟩ ::
     R_o4) (St.mk s o) K =
 (demand (pickV (s 27) (s 32) (V.d (.bool false))) (fun x1 =>
opsB C I R_o4 (St.mk (look [(3, (s 3)), (5, (s 5)), (6, (s 6)), (34, x1)]) (looko ([].map fun n => (n, o n)))) K)) := rfl
theorem g_law07_awake_o2_sh {R_o3 : List AOper} {C : Ctx} {I : Nat → Prop} {s : Nat → V} {o : Nat → Option Ob} {K : St → Prop} : opsB C I (⟨some 28, .mv (.t 1), [], [], (some (10, 27, true)), none⟩ ::
     ⟨some 29, .iaddr 3 (.t 28) (.c (.d (.int .i64 3))), [], [], (some (10, 27, true)), none⟩ ::
     ⟨some 30, .faddr 2 (.t 29), [], [], (some (10, 27, true)), none⟩ ::
     ⟨some 31, .load none (.t 30), [], [], (some (10, 27, true)), none⟩ ::
     ⟨some 32, .bin .eql (.t 31) (.c (.d (.int .i64 9))), [], [], (some (10, 27, true)), (some ([3, 5, 6, 27, 32], (some [])))⟩ ::
     R_o3) (St.mk s o) K =
 (guardK (s 27) true
 (demand (iaddrV o 3 (s 1) (V.d (.int .i64 3))) (fun x1 =>
demand (faddrV 2 x1) (fun x2 =>
demand (loadV o none x2) (fun x3 =>
demand (binV BinOp.eql x3 (V.d (.int .i64 9))) (fun x4 =>
opsB C I R_o3 (St.mk (look [(3, (s 3)), (5, (s 5)), (6, (s 6)), (27, (V.d (D.bool true))), (32, x4)]) (looko ([].map fun n => (n, o n)))) K)))))
 (opsB C I R_o3 (St.mk (look [(3, (s 3)), (5, (s 5)), (6, (s 6)), (27, (V.d (D.bool false))), (32, (V.tup []))]) (looko ([].map fun n => (n, o n)))) K)
 (opsB C I R_o3 (St.mk (look [(3, (s 3)), (5, (s 5)), (6, (s 6)), (27, (V.tup [])), (32, (V.tup []))]) (looko ([].map fun n => (n, o n)))) K)) := rfl
theorem g_law07_awake_o1_sh {R_o2 : List AOper} {C : Ctx} {I : Nat → Prop} {s : Nat → V} {o : Nat → Option Ob} {K : St → Prop} : opsB C I (⟨some 26, .pick (.t 20) (.t 25) (.c (.d (.bool false))), [], [], none, none⟩ ::
     ⟨some 27, .mv (.t 26), [], [], none, (some ([1, 3, 5, 6, 27], (some [])))⟩ ::
     R_o2) (St.mk s o) K =
 (demand (pickV (s 20) (s 25) (V.d (.bool false))) (fun x1 =>
opsB C I R_o2 (St.mk (look [(1, (s 1)), (3, (s 3)), (5, (s 5)), (6, (s 6)), (27, x1)]) (looko ([].map fun n => (n, o n)))) K)) := rfl
theorem g_law07_awake_o0_sh {R_o1 : List AOper} {C : Ctx} {I : Nat → Prop} {s : Nat → V} {o : Nat → Option Ob} {K : St → Prop} : opsB C I (⟨some 21, .mv (.t 1), [], [], (some (3, 20, true)), none⟩ ::
     ⟨some 22, .iaddr 3 (.t 21) (.c (.d (.int .i64 3))), [], [], (some (3, 20, true)), none⟩ ::
     ⟨some 23, .faddr 0 (.t 22), [], [], (some (3, 20, true)), none⟩ ::
     ⟨some 24, .load none (.t 23), [], [], (some (3, 20, true)), none⟩ ::
     ⟨some 25, .bin .eql (.t 24) (.c (.d (.int .i64 3))), [], [], (some (3, 20, true)), (some ([1, 3, 5, 6, 20, 25], (some [])))⟩ ::
     R_o1) (St.mk s o) K =
 (guardK (s 20) true
 (demand (iaddrV o 3 (s 1) (V.d (.int .i64 3))) (fun x1 =>
demand (faddrV 0 x1) (fun x2 =>
demand (loadV o none x2) (fun x3 =>
demand (binV BinOp.eql x3 (V.d (.int .i64 3))) (fun x4 =>
opsB C I R_o1 (St.mk (look [(1, (s 1)), (3, (s 3)), (5, (s 5)), (6, (s 6)), (20, (V.d (D.bool true))), (25, x4)]) (looko ([].map fun n => (n, o n)))) K)))))
 (opsB C I R_o1 (St.mk (look [(1, (s 1)), (3, (s 3)), (5, (s 5)), (6, (s 6)), (20, (V.d (D.bool false))), (25, (V.tup []))]) (looko ([].map fun n => (n, o n)))) K)
 (opsB C I R_o1 (St.mk (look [(1, (s 1)), (3, (s 3)), (5, (s 5)), (6, (s 6)), (20, (V.tup [])), (25, (V.tup []))]) (looko ([].map fun n => (n, o n)))) K)) := rfl
theorem g_law07_awake_c0_sh {C : Ctx} {I : Nat → Prop} {s : Nat → V} {o : Nat → Option Ob} {Q : Ex → St → Prop} : wpB C I (.ret) (St.mk s o) Q =
 (Q .ret (St.mk s o)) := rfl
theorem g_law07_awake_c1_sh {R_o0 : List AOper} {R_c0 : ACode} {C : Ctx} {I : Nat → Prop} {s : Nat → V} {o : Nat → Option Ob} {Q : Ex → St → Prop} : wpB C I (.seq (.region [0] (some []) none
    (⟨some 17, .mv (.t 1), [], [], none, none⟩ ::
     ⟨some 18, .len (.t 17), [], [], none, none⟩ ::
     ⟨some 19, .bin .eql (.t 18) (.c (.d (.int .i64 5))), [], [], none, none⟩ ::
     ⟨some 20, .mv (.t 19), [], [], none, (some ([1, 3, 5, 6, 20], (some [])))⟩ ::
     R_o0))
 (R_c0)) (St.mk s o) Q =
 (demand (lenV o (s 1)) (fun x1 =>
demand (binV BinOp.eql x1 (V.d (.int .i64 5))) (fun x2 =>
opsB C I R_o0 (St.mk (look [(1, (s 1)), (3, (s 3)), (5, (s 5)), (6, (s 6)), (20, x2)]) (looko ([].map fun n => (n, o n)))) (fun st => (seqK (fun st => wpB C I R_c0 st Q) Q) .normal (St.trim st [0] (some [])))))) := rfl
theorem g_law07_awake_c2_sh {R_c1 : ACode} {C : Ctx} {I : Nat → Prop} {s : Nat → V} {o : Nat → Option Ob} {Q : Ex → St → Prop} : wpB C I (.seq (.region [1, 3, 5, 6] (some []) none
    [⟨some 13, .call 74 [(.c (.d (.str [97, 32, 32, 63])))], [], [], none, none⟩,
     ⟨some 12, .mv (.t 13), [], [], none, none⟩,
     ⟨some 14, .ext (.t 12) 0, [], [], none, none⟩,
     ⟨some 15, .ext (.t 12) 1, [], [], none, none⟩,
     ⟨some 16, .ext (.t 12) 2, [], [], none, none⟩,
     ⟨some 4, .mv (.t 14), [], [], none, none⟩,
     ⟨some 5, .mv (.t 15), [], [], none, none⟩,
     ⟨some 6, .mv (.t 16), [], [], none, none⟩])
 (R_c1)) (St.mk s o) Q =
 (callK C I (St.mk s o) (some 13) 74 [(V.d (.str [97, 32, 32, 63]))] (fun r1 or1 =>
demand (extV r1 0) (fun x2 =>
demand (extV r1 1) (fun x3 =>
demand (extV r1 2) (fun x4 =>
wpB C I R_c1 (St.mk (look [(1, (s 1)), (3, (s 3)), (5, x3), (6, x4)]) (looko ([].map fun n => (n, or1 n)))) Q))))) := rfl
theorem g_law07_awake_code_sh {R_c2 : ACode} {C : Ctx} {I : Nat → Prop} {s : Nat → V} {o : Nat → Option Ob} {Q : Ex → St → Prop} : wpB C I (.seq (.region [] (some []) none
    [⟨some 0, .mv (.c (.d (.bool false))), [], [], none, none⟩])
 (.seq (.region [1, 3] (some []) none
     [⟨some 8, .call 74 [(.c (.d (.str [101, 97, 114, 110, 32, 97, 32, 61, 32, 49, 46, 53, 48, 59, 32, 35, 32, 120])))], [], [], none, none⟩,
      ⟨some 7, .mv (.t 8), [], [], none, none⟩,
      ⟨some 9, .ext (.t 7) 0, [], [], none, none⟩,
      ⟨some 10, .ext (.t 7) 1, [], [], none, none⟩,
      ⟨some 11, .ext (.t 7) 2, [], [], none, none⟩,
      ⟨some 1, .mv (.t 9), [], [], none, none⟩,
      ⟨some 2, .mv (.t 10), [], [], none, none⟩,
      ⟨some 3, .mv (.t 11), [], [], none, none⟩])
  (R_c2))) (St.mk s o) Q =
 (callK C I (St.mk (look []) (looko ([].map fun n => (n, o n)))) (some 8) 74 [(V.d (.str [101, 97, 114, 110, 32, 97, 32, 61, 32, 49, 46, 53, 48, 59, 32, 35, 32, 120]))] (fun r1 or1 =>
demand (extV r1 0) (fun x2 =>
demand (extV r1 1) (fun x3 =>
demand (extV r1 2) (fun x4 =>
wpB C I R_c2 (St.mk (look [(1, x2), (3, x4)]) (looko ([].map fun n => (n, or1 n)))) Q))))) := rfl
theorem g_lex_All_o1_sh {C : Ctx} {I : Nat → Prop} {s : Nat → V} {o : Nat → Option Ob} {K : St → Prop} : opsB C I [⟨some 23, .pick (.t 18) (.c (.d (.bool true))) (.t 22), [], [], none, none⟩] (St.mk s o) K =
 (demand (pickV (s 18) (V.d (.bool true)) (s 22)) (fun x1 =>
K (St.mk (upd s 23 x1) o))) := rfl
theorem g_lex_All_o0_sh {R_o1 : List AOper} {C : Ctx} {I : Nat → Prop} {s : Nat → V} {o : Nat → Option Ob} {K : St → Prop} : opsB C I (⟨some 19, .mv (.t 0), [], [], (some (4, 18, false)), none⟩ ::
     ⟨some 20, .mv (.t 6), [], [], (some (4, 18, false)), none⟩ ::
     ⟨some 21, .idx (.t 19) (.t 20), [], [], (some (4, 18, false)), none⟩ ::
     ⟨some 22, .bin .eql (.t 21) (.c (.d (.int .u8 10))), [], [], (some (4, 18, false)), (some ([0, 5, 6, 18, 22], (some [55])))⟩ ::
     R_o1) (St.mk s o) K =
 (guardK (s 18) false
 (demand (idxV (s 0) (s 6)) (fun x1 =>
demand (binV BinOp.eql x1 (V.d (.int .u8 10))) (fun x2 =>
opsB C I R_o1 (St.mk (look [(0, (s 0)), (5, (s 5)), (6, (s 6)), (18, (V.d (D.bool false))), (22, x2)]) (looko ([55].map fun n => (n, o n)))) K)))
 (opsB C I R_o1 (St.mk (look [(0, (s 0)), (5, (s 5)), (6, (s 6)), (18, (V.d (D.bool true))), (22, (V.tup []))]) (looko ([55].map fun n => (n, o n)))) K)
 (opsB C I R_o1 (St.mk (look [(0, (s 0)), (5, (s 5)), (6, (s 6)), (18, (V.tup [])), (22, (V.tup []))]) (looko ([55].map fun n => (n, o n)))) K)) := rfl
theorem g_lex_All_c0_sh {C : Ctx} {I : Nat → Prop} {s : Nat → V} {o : Nat → Option Ob} {Q : Ex → St → Prop} : wpB C I (.cond (.t 23) (.seq (.region [0, 5, 6] (some [55]) none
     [⟨some 24, .mv (.t 6), [], [], none, none⟩,
      ⟨some 25, .bin .add (.t 24) (.c (.d (.int .i64 1))), [], [], none, none⟩,
      ⟨some 6, .mv (.t 25), [], [], none, none⟩])
  (.exit 1000000))
 (.skip)) (St.mk s o) Q =
 (condK (s 23)
 (demand (binV BinOp.add (s 6) (V.d (.int .i64 1))) (fun x1 =>
Q (.exit 1000000) (St.mk (look [(0, (s 0)), (5, (s 5)), (6, x1)]) (looko ([55].map fun n => (n, o n))))))
 (Q .normal (St.mk s o))) := rfl
theorem g_lex_All_c1_sh {C : Ctx} {I : Nat → Prop} {s : Nat → V} {o : Nat → Option Ob} {Q : Ex → St → Prop} : wpB C I (.seq (.region [0, 5, 6] (some [55]) none
    [⟨some 56, .mv (.t 6), [], [], none, none⟩,
     ⟨some 57, .mv (.t 8), [], [], none, none⟩,
     ⟨some 58, .bin .add (.t 56) (.t 57), [], [], none, none⟩,
     ⟨some 6, .mv (.t 58), [], [], none, none⟩])
 (.exit 1000000)) (St.mk s o) Q =
 (demand (binV BinOp.add (s 6) (s 8)) (fun x1 =>
Q (.exit 1000000) (St.mk (look [(0, (s 0)), (5, (s 5)), (6, x1)]) (looko ([55].map fun n => (n, o n)))))) := rfl
theorem g_lex_All_c2_sh {R_c1 : ACode} {C : Ctx} {I : Nat → Prop} {s : Nat → V} {o : Nat → Option Ob} {Q : Ex → St → Prop} : wpB C I (.seq (.region [0, 5, 6, 8] (some [55]) none
    [⟨some 44, .mv (.t 5), [], [], none, none⟩,
     ⟨some 45, .mv (.t 7), [], [], none, none⟩,
     ⟨some 46, .mv (.t 0), [], [], none, none⟩,
     ⟨some 47, .mv (.t 6), [], [], none, none⟩,
     ⟨some 48, .mv (.t 6), [], [], none, none⟩,
     ⟨some 49, .mv (.t 8), [], [], none, none⟩,
     ⟨some 50, .bin .add (.t 48) (.t 49), [], [], none, none⟩,
     ⟨some 51, .slcS (.t 46) (some (.t 47)) (some (.t 50)), [], [], none, none⟩,
     ⟨some 52, .mv (.t 6), [], [], none, none⟩,
     ⟨some 53, .build [.d (.int .i64 0), .d (.str []), .d (.int .i64 0)] [(0, 1, (.t 45)), (1, 1, (.t 51)), (2, 1, (.t 52))], [], [], none, none⟩,
     ⟨some 54, .bsl none 3 [] 1 [(0, (.t 53))], [], [], none, none⟩,
     ⟨some 55, .app (some 55) 3 32 (.t 44) (.t 54), [], [], none, none⟩,
     ⟨some 5, .mv (.t 55), [], [], none, none⟩])
 (R_c1)) (St.mk s o) Q =
 (demand (binV BinOp.add (s 6) (s 8)) (fun x1 =>
demand (slcSV (s 0) (some (s 6)) (some x1)) (fun x2 =>
demand ((buildN [V.d (.int .i64 0), V.d (.str []), V.d (.int .i64 0)] [(0, 1, (s 7)), (1, 1, x2), (2, 1, (s 6))]).map V.agg) (fun x3 =>
lstK (partsN 3 [x3]) (fun es4 =>
lstK (readD o (V.d (D.sl es4))) (fun ys5 => (∀ e ∈ ys5, e.length = 3) ∧ appK (s 5)
 (ys5.length * 32 ≤ 140737488355328 ∧ ys5.length ≤ 140737488355328 ∧ ¬ I 55 ∧ Fresh (St.mk (upd (upd (upd (upd (upd (upd (upd (upd (upd (upd (upd s 44 (s 5)) 45 (s 7)) 46 (s 0)) 47 (s 6)) 48 (s 6)) 49 (s 8)) 50 x1) 51 x2) 52 (s 6)) 53 x3) 54 (V.d (D.sl es4))) o) 55 (some 55) ∧
wpB C I R_c1 (St.mk (look [(0, (s 0)), (5, (V.own 55)), (6, (s 6)), (8, (s 8))]) (looko ([55].map fun n => (n, (upd o 55 (some (Ob.row 3 ys5))) n)))) Q)
 (fun m6 => ¬ I m6 ∧ rowK (o m6) (fun z7 es8 => z7 = 3 ∧ (es8.length + ys5.length) * 32 ≤ 140737488355328 ∧ es8.length + ys5.length ≤ 140737488355328 ∧
wpB C I R_c1 (St.mk (look [(0, ((fun t => scrubV m6 (s t)) 0)), (5, (V.own m6)), (6, ((fun t => scrubV m6 (s t)) 6)), (8, ((fun t => scrubV m6 (s t)) 8))]) (looko ([55].map fun n => (n, (upd (fun n => (o n).map (Ob.scrub m6)) m6 (some (Ob.row 3 (es8 ++ ys5)))) n)))) Q)))))))) := rfl
theorem g_lex_All_c3_sh {R_c2 : ACode} {C : Ctx} {I : Nat → Prop} {s : Nat → V} {o : Nat → Option Ob} {Q : Ex → St → Prop} : wpB C I (.seq (.seq (.region [0, 5, 6, 7, 8, 42] (some [55]) none
     [⟨some 41, .mv (.t 7), [], [], none, none⟩,
      ⟨some 42, .bin .eql (.t 41) (.c (.d (.int .i64 0))), [], [], none, none⟩])
  (.cond (.t 42) (.seq (.region [2, 3, 4] (some [55]) none
       [⟨some 43, .mv (.t 6), [], [], none, none⟩,
        ⟨some 2, .mv (.c (.cap0)), [], [], none, none⟩,
        ⟨some 3, .mv (.t 43), [], [], none, none⟩,
        ⟨some 4, .mv (.c (.d (.int .i64 2))), [], [], none, none⟩])
    (.ret))
   (.skip)))
 (R_c2)) (St.mk s o) Q =
 (demand (binV BinOp.eql (s 7) (V.d (.int .i64 0))) (fun x1 =>
condK x1
 (Q .ret (St.mk (look [(2, (V.cap0)), (3, (s 6)), (4, (V.d (.int .i64 2)))]) (looko ([55].map fun n => (n, o n)))))
 (wpB C I R_c2 (St.mk (look [(0, (s 0)), (5, (s 5)), (6, (s 6)), (7, (s 7)), (8, (s 8)), (42, x1)]) (looko ([55].map fun n => (n, o n)))) Q))) := rfl
theorem g_lex_All_c4_sh {R_c3 : ACode} {C : Ctx} {I : Nat → Prop} {s : Nat → V} {o : Nat → Option Ob} {Q : Ex → St → Prop} : wpB C I (.seq (.region [0, 5, 6, 7, 8] (some [55]) none
    [⟨some 36, .mv (.t 0), [], [], none, none⟩,
     ⟨some 37, .mv (.t 6), [], [], none, none⟩,
     ⟨some 38, .call 104 [(.t 36), (.t 37)], [], [], none, none⟩,
     ⟨some 35, .mv (.t 38), [], [], none, none⟩,
     ⟨some 39, .ext (.t 35) 0, [], [], none, none⟩,
     ⟨some 40, .ext (.t 35) 1, [], [], none, none⟩,
     ⟨some 7, .mv (.t 39), [], [], none, none⟩,
     ⟨some 8, .mv (.t 40), [], [], none, none⟩])
 (R_c3)) (St.mk s o) Q =
 (callK C I (St.mk (upd (upd s 36 (s 0)) 37 (s 6)) o) (some 38) 104 [(s 0), (s 6)] (fun r1 or1 =>
demand (extV r1 0) (fun x2 =>
demand (extV r1 1) (fun x3 =>
wpB C I R_c3 (St.mk (look [(0, (s 0)), (5, (s 5)), (6, (s 6)), (7, x2), (8, x3)]) (looko ([55].map fun n => (n, or1 n)))) Q)))) := rfl
theorem g_lex_All_c5_sh {R_c4 : ACode} {C : Ctx} {I : Nat → Prop} {s : Nat → V} {o : Nat → Option Ob} {Q : Ex → St → Prop} : wpB C I (.seq (.seq (.region [0, 5, 6, 29] (some [55]) none
     [⟨some 26, .mv (.t 0), [], [], none, none⟩,
      ⟨some 27, .mv (.t 6), [], [], none, none⟩,
      ⟨some 28, .idx (.t 26) (.t 27), [], [], none, none⟩,
      ⟨some 29, .bin .eql (.t 28) (.c (.d (.int .u8 35))), [], [], none, none⟩])
  (.cond (.t 29) (.seq (.region [0, 5, 6] (some [55]) none
       [⟨some 30, .mv (.t 6), [], [], none, none⟩,
        ⟨some 31, .mv (.t 0), [], [], none, none⟩,
        ⟨some 32, .mv (.t 6), [], [], none, none⟩,
        ⟨some 33, .call 102 [(.t 31), (.t 32), (.f 103)], [], [], none, none⟩,
        ⟨some 34, .bin .add (.t 30) (.t 33), [], [], none, none⟩,
        ⟨some 6, .mv (.t 34), [], [], none, none⟩])
    (.exit 1000000))
   (.skip)))
 (R_c4)) (St.mk s o) Q =
 (demand (idxV (s 0) (s 6)) (fun x1 =>
demand (binV BinOp.eql x1 (V.d (.int .u8 35))) (fun x2 =>
condK x2
 (callK C I (St.mk (upd (upd (upd (look [(0, (s 0)), (5, (s 5)), (6, (s 6)), (29, x2)]) 30 (s 6)) 31 (s 0)) 32 (s 6)) (looko ([55].map fun n => (n, o n)))) (some 33) 102 [(s 0), (s 6), (V.fn 103 [])] (fun r3 or3 =>
demand (binV BinOp.add (s 6) r3) (fun x4 =>
Q (.exit 1000000) (St.mk (look [(0, (s 0)), (5, (s 5)), (6, x4)]) (looko ([55].map fun n => (n, or3 n)))))))
 (wpB C I R_c4 (St.mk (look [(0, (s 0)), (5, (s 5)), (6, (s 6)), (29, x2)]) (looko ([55].map fun n => (n, o n)))) Q)))) := rfl
theorem g_lex_All_c6_sh {R_o0 : List AOper} {R_c0 : ACode} {R_c5 : ACode} {C : Ctx} {I : Nat → Prop} {s : Nat → V} {o : Nat → Option Ob} {Q : Ex → St → Prop} : wpB C I (.seq (.seq (.region [0, 5, 6, 23] (some [55]) none
     (⟨some 14, .mv (.t 0), [], [], none, none⟩ ::
      ⟨some 15, .mv (.t 6), [], [], none, none⟩ ::
      ⟨some 16, .idx (.t 14) (.t 15), [], [], none, none⟩ ::
      ⟨some 17, .bin .eql (.t 16) (.c (.d (.int .u8 32))), [], [], none, none⟩ ::
      ⟨some 18, .mv (.t 17), [], [], none, (some ([0, 5, 6, 18], (some [55])))⟩ ::
      R_o0))
  (R_c0))
 (R_c5)) (St.mk s o) Q =
 (demand (idxV (s 0) (s 6)) (fun x1 =>
demand (binV BinOp.eql x1 (V.d (.int .u8 32))) (fun x2 =>
opsB C I R_o0 (St.mk (look [(0, (s 0)), (5, (s 5)), (6, (s 6)), (18, x2)]) (looko ([55].map fun n => (n, o n)))) (fun st => (seqK (fun st => wpB C I R_c0 st (seqK (fun st => wpB C I R_c5 st Q) Q)) (seqK (fun st => wpB C I R_c5 st Q) Q)) .normal (St.trim st [0, 5, 6, 23] (some [55])))))) := rfl
theorem g_lex_All_c7_sh {R_c6 : ACode} {C : Ctx} {I : Nat → Prop} {s : Nat → V} {o : Nat → Option Ob} {Q : Ex → St → Prop} : wpB C I (.seq (.seq (.region [0, 5, 6, 12] (some [55]) none
     [⟨some 9, .mv (.t 6), [], [], none, none⟩,
      ⟨some 10, .mv (.t 0), [], [], none, none⟩,
      ⟨some 11, .lenS (.t 10), [], [], none, none⟩,
      ⟨some 12, .bin .geq (.t 9) (.t 11), [], [], none, none⟩])
  (.cond (.t 12) (.seq (.region [2, 3, 4] (some [55]) none
       [⟨some 13, .mv (.t 5), [], [], none, none⟩,
        ⟨some 2, .mv (.t 13), [], [], none, none⟩,
        ⟨some 3, .mv (.c (.d (.int .i64 0))), [], [], none, none⟩,
        ⟨some 4, .mv (.c (.d (.int .i64 0))), [], [], none, none⟩])
    (.ret))
   (.skip)))
 (R_c6)) (St.mk s o) Q =
 (demand (lenSV (s 0)) (fun x1 =>
demand (binV BinOp.geq (s 6) x1) (fun x2 =>
condK x2
 (Q .ret (St.mk (look [(2, (s 5)), (3, (V.d (.int .i64 0))), (4, (V.d (.int .i64 0)))]) (looko ([55].map fun n => (n, o n)))))
 (wpB C I R_c6 (St.mk (look [(0, (s 0)), (5, (s 5)), (6, (s 6)), (12, x2)]) (looko ([55].map fun n => (n, o n)))) Q)))) := rfl
theorem g_lex_All_code_sh {R_c7 : ACode} {C : Ctx} {I : Nat → Prop} {s : Nat → V} {o : Nat → Option Ob} {Q : Ex → St → Prop} : wpB C I (.seq (.region [0] (some []) none
    [⟨some 2, .mv (.c (.cap0)), [], [], none, none⟩,
     ⟨some 3, .mv (.c (.d (.int .i64 0))), [], [], none, none⟩,
     ⟨some 4, .mv (.c (.d (.int .i64 0))), [], [], none, none⟩])
 (.scope 0 [0, 5, 6] (some [55]) (.seq (.region [0, 5] (some [55]) none
      [⟨some 5, .mv (.c (.cap0)), [], [], none, none⟩])
   (.seq (.region [0, 5, 6] (some [55]) none
       [⟨some 6, .mv (.c (.d (.int .i64 0))), [], [], none, none⟩,
        ⟨some 7, .mv (.c (.d (.int .i64 0))), [], [], none, none⟩,
        ⟨some 8, .mv (.c (.d (.int .i64 0))), [], [], none, none⟩])
    (.seq (.skip)
     (R_c7))))
  (.seq .skip R_c7))) (St.mk s o) Q =
 (wpB C I R_c7 (St.mk (look [(0, (s 0)), (5, (V.cap0)), (6, (V.d (.int .i64 0)))]) (looko ([55].map fun n => (n, (looko ([].map fun n => (n, o n))) n)))) (jumpK 0 (fun s => wpA C I (.scope 0 [0, 5, 6] (some [55]) (.seq .skip R_c7) (.seq .skip R_c7)) (s.trim [0, 5, 6] (some [55])) Q) Q)) := rfl
theorem g_ref07_All_o1_sh {C : Ctx} {I : Nat → Prop} {s : Nat → V} {o : Nat → Option Ob} {K : St → Prop} : opsB C I [⟨some 24, .pick (.t 21) (.c (.d (.bool true))) (.t 23), [], [], none, none⟩,
     ⟨some 18, .mv (.t 24), [], [], none, none⟩] (St.mk s o) K =
 (demand (pickV (s 21) (V.d (.bool true)) (s 23)) (fun x1 =>
K (St.mk (upd (upd s 24 x1) 18 x1) o))) := rfl
theorem g_ref07_All_o0_sh {R_o1 : List AOper} {C : Ctx} {I : Nat → Prop} {s : Nat → V} {o : Nat → Option Ob} {K : St → Prop} : opsB C I (⟨some 22, .mv (.t 6), [], [], (some (2, 21, false)), none⟩ ::
     ⟨some 23, .bin .eql (.t 22) (.c (.d (.int .u8 10))), [], [], (some (2, 21, false)), (some ([0, 4, 5, 6, 7, 8, 21, 23], (some [110])))⟩ ::
     R_o1) (St.mk s o) K =
 (guardK (s 21) false
 (demand (binV BinOp.eql (s 6) (V.d (.int .u8 10))) (fun x1 =>
opsB C I R_o1 (St.mk (look [(0, (s 0)), (4, (s 4)), (5, (s 5)), (6, (s 6)), (7, (s 7)), (8, (s 8)), (21, (V.d (D.bool false))), (23, x1)]) (looko ([110].map fun n => (n, o n)))) K))
 (opsB C I R_o1 (St.mk (look [(0, (s 0)), (4, (s 4)), (5, (s 5)), (6, (s 6)), (7, (s 7)), (8, (s 8)), (21, (V.d (D.bool true))), (23, (V.tup []))]) (looko ([110].map fun n => (n, o n)))) K)
 (opsB C I R_o1 (St.mk (look [(0, (s 0)), (4, (s 4)), (5, (s 5)), (6, (s 6)), (7, (s 7)), (8, (s 8)), (21, (V.tup [])), (23, (V.tup []))]) (looko ([110].map fun n => (n, o n)))) K)) := rfl
theorem g_ref07_All_o3_sh {C : Ctx} {I : Nat → Prop} {s : Nat → V} {o : Nat → Option Ob} {K : St → Prop} : opsB C I [⟨some 37, .pick (.t 32) (.t 36) (.c (.d (.bool false))), [], [], none, none⟩] (St.mk s o) K =
 (demand (pickV (s 32) (s 36) (V.d (.bool false))) (fun x1 =>
K (St.mk (upd s 37 x1) o))) := rfl
theorem g_ref07_All_o2_sh {R_o3 : List AOper} {C : Ctx} {I : Nat → Prop} {s : Nat → V} {o : Nat → Option Ob} {K : St → Prop} : opsB C I (⟨some 33, .mv (.t 0), [], [], (some (4, 32, true)), none⟩ ::
     ⟨some 34, .mv (.t 7), [], [], (some (4, 32, true)), none⟩ ::
     ⟨some 35, .idx (.t 33) (.t 34), [], [], (some (4, 32, true)), none⟩ ::
     ⟨some 36, .bin .neq (.t 35) (.c (.d (.int .u8 10))), [], [], (some (4, 32, true)), (some ([0, 4, 5, 7, 32, 36], (some [110])))⟩ ::
     R_o3) (St.mk s o) K =
 (guardK (s 32) true
 (demand (idxV (s 0) (s 7)) (fun x1 =>
demand (binV BinOp.neq x1 (V.d (.int .u8 10))) (fun x2 =>
opsB C I R_o3 (St.mk (look [(0, (s 0)), (4, (s 4)), (5, (s 5)), (7, (s 7)), (32, (V.d (D.bool true))), (36, x2)]) (looko ([110].map fun n => (n, o n)))) K)))
 (opsB C I R_o3 (St.mk (look [(0, (s 0)), (4, (s 4)), (5, (s 5)), (7, (s 7)), (32, (V.d (D.bool false))), (36, (V.tup []))]) (looko ([110].map fun n => (n, o n)))) K)
 (opsB C I R_o3 (St.mk (look [(0, (s 0)), (4, (s 4)), (5, (s 5)), (7, (s 7)), (32, (V.tup [])), (36, (V.tup []))]) (looko ([110].map fun n => (n, o n)))) K)) := rfl
theorem g_ref07_All_c0_sh {C : Ctx} {I : Nat → Prop} {s : Nat → V} {o : Nat → Option Ob} {Q : Ex → St → Prop} : wpB C I (.cond (.t 37) (.skip)
 (.exit 3)) (St.mk s o) Q =
 (condK (s 37)
 (Q .normal (St.mk s o))
 (Q (.exit 3) (St.mk s o))) := rfl
theorem g_ref07_All_c1_sh {C : Ctx} {I : Nat → Prop} {s : Nat → V} {o : Nat → Option Ob} {Q : Ex → St → Prop} : wpB C I (.block 4 [0, 4, 5, 7] (some [110]) (.region [0, 4, 5, 7] (some [110]) none
    [⟨some 38, .mv (.t 7), [], [], none, none⟩,
     ⟨some 39, .bin .add (.t 38) (.c (.d (.int .i64 1))), [], [], none, none⟩,
     ⟨some 7, .mv (.t 39), [], [], none, none⟩])) (St.mk s o) Q =
 (demand (binV BinOp.add (s 7) (V.d (.int .i64 1))) (fun x1 =>
Q .normal (St.mk (look [(0, (s 0)), (4, (s 4)), (5, (s 5)), (7, x1)]) (looko ([110].map fun n => (n, o n)))))) := rfl
theorem g_ref07_All_l1_sh {R_l1 : ACode} {R_o2 : List AOper} {R_c0 : ACode} {R_c1 : ACode} {C : Ctx} {I : Nat → Prop} {s : Nat → V} {o : Nat → Option Ob} {Q : Ex → St → Prop} (hL : R_l1 = .loop [0, 4, 5, 7] (some [110]) (.seq (.seq (.region [0, 4, 5, 7, 37] (some [110]) none
      (⟨some 28, .mv (.t 7), [], [], none, none⟩ ::
       ⟨some 29, .mv (.t 0), [], [], none, none⟩ ::
       ⟨some 30, .lenS (.t 29), [], [], none, none⟩ ::
       ⟨some 31, .bin .lss (.t 28) (.t 30), [], [], none, none⟩ ::
       ⟨some 32, .mv (.t 31), [], [], none, (some ([0, 4, 5, 7, 32], (some [110])))⟩ ::
       R_o2))
   (R_c0))
  (R_c1)))
 (h : demand (lenSV (s 0)) (fun x1 =>
demand (binV BinOp.lss (s 7) x1) (fun x2 =>
opsB C I R_o2 (St.mk (look [(0, (s 0)), (4, (s 4)), (5, (s 5)), (7, (s 7)), (32, x2)]) (looko ([110].map fun n => (n, o n)))) (fun st => (seqK (fun st => wpB C I R_c0 st (seqK (fun st => wpB C I R_c1 st (seqK (fun s => wpB C I R_l1 s Q) Q)) (seqK (fun s => wpB C I R_l1 s Q) Q))) (seqK (fun st => wpB C I R_c1 st (seqK (fun s => wpB C I R_l1 s Q) Q)) (seqK (fun s => wpB C I R_l1 s Q) Q))) .normal (St.trim st [0, 4, 5, 7, 37] (some [110])))))) : wpB C I R_l1 (St.mk s o) Q := w_loopC hL h
theorem g_ref07_All_c2_sh {C : Ctx} {I : Nat → Prop} {s : Nat → V} {o : Nat → Option Ob} {Q : Ex → St → Prop} : wpB C I (.region [0, 4, 5, 7, 8] (some [110]) none
   [⟨some 8, .mv (.c (.d (.int .i64 (-1)))), [], [], none, none⟩]) (St.mk s o) Q =
 (Q .normal (St.mk (look [(0, (s 0)), (4, (s 4)), (5, (s 5)), (7, (s 7)), (8, (V.d (.int .i64 (-1))))]) (looko ([110].map fun n => (n, o n))))) := rfl
theorem g_ref07_All_c3_sh {C : Ctx} {I : Nat → Prop} {s : Nat → V} {o : Nat → Option Ob} {Q : Ex → St → Prop} : wpB C I (.seq (.region [0, 4, 5, 7, 8, 49] (some [110]) none
    [⟨some 46, .mv (.t 7), [], [], none, none⟩,
     ⟨some 47, .mv (.t 5), [], [], none, none⟩,
     ⟨some 48, .bin .sub (.t 46) (.t 47), [], [], none, none⟩,
     ⟨some 49, .bin .lss (.t 48) (.c (.d (.int .i64 13))), [], [], none, none⟩])
 (.cond (.t 49) (.region [0, 4, 5, 7, 8] (some [110]) none
     [⟨some 8, .mv (.c (.d (.int .i64 1))), [], [], none, none⟩])
  (.skip))) (St.mk s o) Q =
 (demand (binV BinOp.sub (s 7) (s 5)) (fun x1 =>
demand (binV BinOp.lss x1 (V.d (.int .i64 13))) (fun x2 =>
condK x2
 (Q .normal (St.mk (look [(0, (s 0)), (4, (s 4)), (5, (s 5)), (7, (s 7)), (8, (V.d (.int .i64 1)))]) (looko ([110].map fun n => (n, o n)))))
 (Q .normal (St.mk (look [(0, (s 0)), (4, (s 4)), (5, (s 5)), (7, (s 7)), (8, (s 8)), (49, x2)]) (looko ([110].map fun n => (n, o n)))))))) := rfl
theorem g_ref07_All_c4_sh {C : Ctx} {I : Nat → Prop} {s : Nat → V} {o : Nat → Option Ob} {Q : Ex → St → Prop} : wpB C I (.region [0, 4, 5, 7, 8] (some [110]) none
   [⟨some 56, .mv (.t 0), [], [], none, none⟩,
    ⟨some 57, .mv (.t 5), [], [], none, none⟩,
    ⟨some 58, .mv (.t 7), [], [], none, none⟩,
    ⟨some 59, .slcS (.t 56) (some (.t 57)) (some (.t 58)), [], [], none, none⟩,
    ⟨some 60, .call 98 [(.t 59)], [], [], none, none⟩,
    ⟨some 8, .mv (.t 60), [], [], none, none⟩]) (St.mk s o) Q =
 (demand (slcSV (s 0) (some (s 5)) (some (s 7))) (fun x1 =>
callK C I (St.mk (upd (upd (upd (upd s 56 (s 0)) 57 (s 5)) 58 (s 7)) 59 x1) o) (some 60) 98 [x1] (fun r2 or2 =>
Q .normal (St.mk (look [(0, (s 0)), (4, (s 4)), (5, (s 5)), (7, (s 7)), (8, r2)]) (looko ([110].map fun n => (n, or2 n))))))) := rfl
theorem g_ref07_All_o13_sh {C : Ctx} {I : Nat → Prop} {s : Nat → V} {o : Nat → Option Ob} {K : St → Prop} : opsB C I [⟨some 93, .pick (.t 68) (.t 92) (.c (.d (.bool false))), [], [], none, none⟩] (St.mk s o) K =
 (demand (pickV (s 68) (s 92) (V.d (.bool false))) (fun x1 =>
K (St.mk (upd s 93 x1) o))) := rfl
theorem g_ref07_All_o12_sh {R_o13 : List AOper} {C : Ctx} {I : Nat → Prop} {s : Nat → V} {o : Nat → Option Ob} {K : St → Prop} : opsB C I (⟨some 92, .pick (.t 83) (.c (.d (.bool true))) (.t 91), [], [], (some (4, 68, true)), (some ([0, 4, 5, 7, 8, 68, 92], (some [110])))⟩ ::
     R_o13) (St.mk s o) K =
 (guardK (s 68) true
 (demand (pickV (s 83) (V.d (.bool true)) (s 91)) (fun x1 =>
opsB C I R_o13 (St.mk (look [(0, (s 0)), (4, (s 4)), (5, (s 5)), (7, (s 7)), (8, (s 8)), (68, (V.d (D.bool true))), (92, x1)]) (looko ([110].map fun n => (n, o n)))) K))
 (opsB C I R_o13 (St.mk (look [(0, (s 0)), (4, (s 4)), (5, (s 5)), (7, (s 7)), (8, (s 8)), (68, (V.d (D.bool false))), (92, (V.tup []))]) (looko ([110].map fun n => (n, o n)))) K)
 (opsB C I R_o13 (St.mk (look [(0, (s 0)), (4, (s 4)), (5, (s 5)), (7, (s 7)), (8, (s 8)), (68, (V.tup [])), (92, (V.tup []))]) (looko ([110].map fun n => (n, o n)))) K)) := rfl
theorem g_ref07_All_o11_sh {R_o12 : List AOper} {C : Ctx} {I : Nat → Prop} {s : Nat → V} {o : Nat → Option Ob} {K : St → Prop} : opsB C I (⟨some 91, .pick (.t 86) (.t 90) (.c (.d (.bool false))), [], [], (some (19, 83, false)), (some ([0, 4, 5, 7, 8, 68, 83, 91], (some [110])))⟩ ::
     R_o12) (St.mk s o) K =
 (guardK (s 83) false
 (demand (pickV (s 86) (s 90) (V.d (.bool false))) (fun x1 =>
opsB C I R_o12 (St.mk (look [(0, (s 0)), (4, (s 4)), (5, (s 5)), (7, (s 7)), (8, (s 8)), (68, (s 68)), (83, (V.d (D.bool false))), (91, x1)]) (looko ([110].map fun n => (n, o n)))) K))
 (opsB C I R_o12 (St.mk (look [(0, (s 0)), (4, (s 4)), (5, (s 5)), (7, (s 7)), (8, (s 8)), (68, (s 68)), (83, (V.d (D.bool true))), (91, (V.tup []))]) (looko ([110].map fun n => (n, o n)))) K)
 (opsB C I R_o12 (St.mk (look [(0, (s 0)), (4, (s 4)), (5, (s 5)), (7, (s 7)), (8, (s 8)), (68, (s 68)), (83, (V.tup [])), (91, (V.tup []))]) (looko ([110].map fun n => (n, o n)))) K)) := rfl
theorem g_ref07_All_o10_sh {R_o11 : List AOper} {C : Ctx} {I : Nat → Prop} {s : Nat → V} {o : Nat → Option Ob} {K : St → Prop} : opsB C I (⟨some 87, .mv (.t 0), [], [], (some (22, 86, true)), none⟩ ::
     ⟨some 88, .mv (.t 7), [], [], (some (22, 86, true)), none⟩ ::
     ⟨some 89, .idx (.t 87) (.t 88), [], [], (some (22, 86, true)), none⟩ ::
     ⟨some 90, .bin .eql (.t 89) (.c (.d (.int .u8 61))), [], [], (some (22, 86, true)), (some ([0, 4, 5, 7, 8, 68, 83, 86, 90], (some [110])))⟩ ::
     R_o11) (St.mk s o) K =
 (guardK (s 86) true
 (demand (idxV (s 0) (s 7)) (fun x1 =>
demand (binV BinOp.eql x1 (V.d (.int .u8 61))) (fun x2 =>
opsB C I R_o11 (St.mk (look [(0, (s 0)), (4, (s 4)), (5, (s 5)), (7, (s 7)), (8, (s 8)), (68, (s 68)), (83, (s 83)), (86, (V.d (D.bool true))), (90, x2)]) (looko ([110].map fun n => (n, o n)))) K)))
 (opsB C I R_o11 (St.mk (look [(0, (s 0)), (4, (s 4)), (5, (s 5)), (7, (s 7)), (8, (s 8)), (68, (s 68)), (83, (s 83)), (86, (V.d (D.bool false))), (90, (V.tup []))]) (looko ([110].map fun n => (n, o n)))) K)
 (opsB C I R_o11 (St.mk (look [(0, (s 0)), (4, (s 4)), (5, (s 5)), (7, (s 7)), (8, (s 8)), (68, (s 68)), (83, (s 83)), (86, (V.tup [])), (90, (V.tup []))]) (looko ([110].map fun n => (n, o n)))) K)) := rfl
theorem g_ref07_All_o9_sh {R_o10 : List AOper} {C : Ctx} {I : Nat → Prop} {s : Nat → V} {o : Nat → Option Ob} {K : St → Prop} : opsB C I (⟨some 84, .mv (.t 6), [], [], (some (19, 83, false)), none⟩ ::
     ⟨some 85, .bin .eql (.t 84) (.c (.d (.int .u8 62))), [], [], (some (19, 83, false)), none⟩ ::
     ⟨some 86, .mv (.t 85), [], [], (some (19, 83, false)), (some ([0, 4, 5, 7, 8, 68, 83, 86], (some [110])))⟩ ::
     R_o10) (St.mk s o) K =
 (guardK (s 83) false
 (demand (binV BinOp.eql (s 6) (V.d (.int .u8 62))) (fun x1 =>
opsB C I R_o10 (St.mk (look [(0, (s 0)), (4, (s 4)), (5, (s 5)), (7, (s 7)), (8, (s 8)), (68, (s 68)), (83, (V.d (D.bool false))), (86, x1)]) (looko ([110].map fun n => (n, o n)))) K))
 (opsB C I R_o10 (St.mk (look [(0, (s 0)), (4, (s 4)), (5, (s 5)), (7, (s 7)), (8, (s 8)), (68, (s 68)), (83, (V.d (D.bool true))), (86, (V.tup []))]) (looko ([110].map fun n => (n, o n)))) K)
 (opsB C I R_o10 (St.mk (look [(0, (s 0)), (4, (s 4)), (5, (s 5)), (7, (s 7)), (8, (s 8)), (68, (s 68)), (83, (V.tup [])), (86, (V.tup []))]) (looko ([110].map fun n => (n, o n)))) K)) := rfl
theorem g_ref07_All_o8_sh {R_o9 : List AOper} {C : Ctx} {I : Nat → Prop} {s : Nat → V} {o : Nat → Option Ob} {K : St → Prop} : opsB C I (⟨some 82, .pick (.t 71) (.t 81) (.c (.d (.bool false))), [], [], (some (4, 68, true)), none⟩ ::
     ⟨some 83, .mv (.t 82), [], [], (some (4, 68, true)), (some ([0, 4, 5, 6, 7, 8, 68, 83], (some [110])))⟩ ::
     R_o9) (St.mk s o) K =
 (guardK (s 68) true
 (demand (pickV (s 71) (s 81) (V.d (.bool false))) (fun x1 =>
opsB C I R_o9 (St.mk (look [(0, (s 0)), (4, (s 4)), (5, (s 5)), (6, (s 6)), (7, (s 7)), (8, (s 8)), (68, (V.d (D.bool true))), (83, x1)]) (looko ([110].map fun n => (n, o n)))) K))
 (opsB C I R_o9 (St.mk (look [(0, (s 0)), (4, (s 4)), (5, (s 5)), (6, (s 6)), (7, (s 7)), (8, (s 8)), (68, (V.d (D.bool false))), (83, (V.tup []))]) (looko ([110].map fun n => (n, o n)))) K)
 (opsB C I R_o9 (St.mk (look [(0, (s 0)), (4, (s 4)), (5, (s 5)), (6, (s 6)), (7, (s 7)), (8, (s 8)), (68, (V.tup [])), (83, (V.tup []))]) (looko ([110].map fun n => (n, o n)))) K)) := rfl
theorem g_ref07_All_o7_sh {R_o8 : List AOper} {C : Ctx} {I : Nat → Prop} {s : Nat → V} {o : Nat → Option Ob} {K : St → Prop} : opsB C I (⟨some 81, .pick (.t 76) (.c (.d (.bool true))) (.t 80), [], [], (some (7, 71, true)), (some ([0, 4, 5, 6, 7, 8, 68, 71, 81], (some [110])))⟩ ::
     R_o8) (St.mk s o) K =
 (guardK (s 71) true
 (demand (pickV (s 76) (V.d (.bool true)) (s 80)) (fun x1 =>
opsB C I R_o8 (St.mk (look [(0, (s 0)), (4, (s 4)), (5, (s 5)), (6, (s 6)), (7, (s 7)), (8, (s 8)), (68, (s 68)), (71, (V.d (D.bool true))), (81, x1)]) (looko ([110].map fun n => (n, o n)))) K))
 (opsB C I R_o8 (St.mk (look [(0, (s 0)), (4, (s 4)), (5, (s 5)), (6, (s 6)), (7, (s 7)), (8, (s 8)), (68, (s 68)), (71, (V.d (D.bool false))), (81, (V.tup []))]) (looko ([110].map fun n => (n, o n)))) K)
 (opsB C I R_o8 (St.mk (look [(0, (s 0)), (4, (s 4)), (5, (s 5)), (6, (s 6)), (7, (s 7)), (8, (s 8)), (68, (s 68)), (71, (V.tup [])), (81, (V.tup []))]) (looko ([110].map fun n => (n, o n)))) K)) := rfl
theorem g_ref07_All_o6_sh {R_o7 : List AOper} {C : Ctx} {I : Nat → Prop} {s : Nat → V} {o : Nat → Option Ob} {K : St → Prop} : opsB C I (⟨some 77, .mv (.t 0), [], [], (some (12, 76, false)), none⟩ ::
     ⟨some 78, .mv (.t 7), [], [], (some (12, 76, false)), none⟩ ::
     ⟨some 79, .idx (.t 77) (.t 78), [], [], (some (12, 76, false)), none⟩ ::
     ⟨some 80, .bin .eql (.t 79) (.c (.d (.int .u8 62))), [], [], (some (12, 76, false)), (some ([0, 4, 5, 6, 7, 8, 68, 71, 76, 80], (some [110])))⟩ ::
     R_o7) (St.mk s o) K =
 (guardK (s 76) false
 (demand (idxV (s 0) (s 7)) (fun x1 =>
demand (binV BinOp.eql x1 (V.d (.int .u8 62))) (fun x2 =>
opsB C I R_o7 (St.mk (look [(0, (s 0)), (4, (s 4)), (5, (s 5)), (6, (s 6)), (7, (s 7)), (8, (s 8)), (68, (s 68)), (71, (s 71)), (76, (V.d (D.bool false))), (80, x2)]) (looko ([110].map fun n => (n, o n)))) K)))
 (opsB C I R_o7 (St.mk (look [(0, (s 0)), (4, (s 4)), (5, (s 5)), (6, (s 6)), (7, (s 7)), (8, (s 8)), (68, (s 68)), (71, (s 71)), (76, (V.d (D.bool true))), (80, (V.tup []))]) (looko ([110].map fun n => (n, o n)))) K)
 (opsB C I R_o7 (St.mk (look [(0, (s 0)), (4, (s 4)), (5, (s 5)), (6, (s 6)), (7, (s 7)), (8, (s 8)), (68, (s 68)), (71, (s 71)), (76, (V.tup [])), (80, (V.tup []))]) (looko ([110].map fun n => (n, o n)))) K)) := rfl
theorem g_ref07_All_o5_sh {R_o6 : List AOper} {C : Ctx} {I : Nat → Prop} {s : Nat → V} {o : Nat → Option Ob} {K : St → Prop} : opsB C I (⟨some 72, .mv (.t 0), [], [], (some (7, 71, true)), none⟩ ::
     ⟨some 73, .mv (.t 7), [], [], (some (7, 71, true)), none⟩ ::
     ⟨some 74, .idx (.t 72) (.t 73), [], [], (some (7, 71, true)), none⟩ ::
     ⟨some 75, .bin .eql (.t 74) (.c (.d (.int .u8 61))), [], [], (some (7, 71, true)), none⟩ ::
     ⟨some 76, .mv (.t 75), [], [], (some (7, 71, true)), (some ([0, 4, 5, 6, 7, 8, 68, 71, 76], (some [110])))⟩ ::
     R_o6) (St.mk s o) K =
 (guardK (s 71) true
 (demand (idxV (s 0) (s 7)) (fun x1 =>
demand (binV BinOp.eql x1 (V.d (.int .u8 61))) (fun x2 =>
opsB C I R_o6 (St.mk (look [(0, (s 0)), (4, (s 4)), (5, (s 5)), (6, (s 6)), (7, (s 7)), (8, (s 8)), (68, (s 68)), (71, (V.d (D.bool true))), (76, x2)]) (looko ([110].map fun n => (n, o n)))) K)))
 (opsB C I R_o6 (St.mk (look [(0, (s 0)), (4, (s 4)), (5, (s 5)), (6, (s 6)), (7, (s 7)), (8, (s 8)), (68, (s 68)), (71, (V.d (D.bool false))), (76, (V.tup []))]) (looko ([110].map fun n => (n, o n)))) K)
 (opsB C I R_o6 (St.mk (look [(0, (s 0)), (4, (s 4)), (5, (s 5)), (6, (s 6)), (7, (s 7)), (8, (s 8)), (68, (s 68)), (71, (V.tup [])), (76, (V.tup []))]) (looko ([110].map fun n => (n, o n)))) K)) := rfl
theorem g_ref07_All_o4_sh {R_o5 : List AOper} {C : Ctx} {I : Nat → Prop} {s : Nat → V} {o : Nat → Option Ob} {K : St → Prop} : opsB C I (⟨some 69, .mv (.t 6), [], [], (some (4, 68, true)), none⟩ ::
     ⟨some 70, .bin .eql (.t 69) (.c (.d (.int .u8 60))), [], [], (some (4, 68, true)), none⟩ ::
     ⟨some 71, .mv (.t 70), [], [], (some (4, 68, true)), (some ([0, 4, 5, 6, 7, 8, 68, 71], (some [110])))⟩ ::
     R_o5) (St.mk s o) K =
 (guardK (s 68) true
 (demand (binV BinOp.eql (s 6) (V.d (.int .u8 60))) (fun x1 =>
opsB C I R_o5 (St.mk (look [(0, (s 0)), (4, (s 4)), (5, (s 5)), (6, (s 6)), (7, (s 7)), (8, (s 8)), (68, (V.d (D.bool true))), (71, x1)]) (looko ([110].map fun n => (n, o n)))) K))
 (opsB C I R_o5 (St.mk (look [(0, (s 0)), (4, (s 4)), (5, (s 5)), (6, (s 6)), (7, (s 7)), (8, (s 8)), (68, (V.d (D.bool false))), (71, (V.tup []))]) (looko ([110].map fun n => (n, o n)))) K)
 (opsB C I R_o5 (St.mk (look [(0, (s 0)), (4, (s 4)), (5, (s 5)), (6, (s 6)), (7, (s 7)), (8, (s 8)), (68, (V.tup [])), (71, (V.tup []))]) (looko ([110].map fun n => (n, o n)))) K)) := rfl
theorem g_ref07_All_c5_sh {C : Ctx} {I : Nat → Prop} {s : Nat → V} {o : Nat → Option Ob} {Q : Ex → St → Prop} : wpB C I (.cond (.t 93) (.region [0, 4, 5, 7, 8] (some [110]) none
    [⟨some 94, .mv (.t 7), [], [], none, none⟩,
     ⟨some 95, .bin .add (.t 94) (.c (.d (.int .i64 1))), [], [], none, none⟩,
     ⟨some 7, .mv (.t 95), [], [], none, none⟩])
 (.skip)) (St.mk s o) Q =
 (condK (s 93)
 (demand (binV BinOp.add (s 7) (V.d (.int .i64 1))) (fun x1 =>
Q .normal (St.mk (look [(0, (s 0)), (4, (s 4)), (5, (s 5)), (7, x1), (8, (s 8))]) (looko ([110].map fun n => (n, o n))))))
 (Q .normal (St.mk s o))) := rfl
theorem g_ref07_All_c6_sh {R_l1 : ACode} {R_c2 : ACode} {R_c3 : ACode} {R_c4 : ACode} {R_o4 : List AOper} {R_c5 : ACode} {C : Ctx} {I : Nat → Prop} {s : Nat → V} {o : Nat → Option Ob} {Q : Ex → St → Prop} : wpB C I (.cond (.t 18) (.region [0, 4, 5, 7, 8] (some [110]) none
    [⟨some 8, .mv (.c (.d (.int .i64 (-1)))), [], [], none, none⟩])
 (.seq (.region [0, 4, 5, 6, 7, 8, 25] (some [110]) none
     [⟨some 26, .mv (.t 6), [], [], none, none⟩,
      ⟨some 27, .bin .eql (.t 26) (.c (.d (.int .u8 35))), [], [], none, none⟩,
      ⟨some 25, .mv (.t 27), [], [], none, none⟩])
  (.cond (.t 25) (.seq (.block 3 [0, 4, 5, 7] (some [110]) (R_l1))
    (R_c2))
   (.seq (.region [0, 4, 5, 6, 7, 8, 40] (some [110]) none
       [⟨some 41, .mv (.t 6), [], [], none, none⟩,
        ⟨some 42, .call 96 [(.t 41), (.c (.d (.str [97, 98, 99, 100, 101, 102, 103, 104, 105, 106, 107, 108, 109, 110, 111, 112, 113, 114, 115, 116, 117, 118, 119, 120, 121, 122])))], [], [], none, none⟩,
        ⟨some 40, .mv (.t 42), [], [], none, none⟩])
    (.cond (.t 40) (.seq (.region [0, 4, 5, 7, 8] (some [110]) none
         [⟨some 43, .mv (.t 0), [], [], none, none⟩,
          ⟨some 44, .mv (.t 5), [], [], none, none⟩,
          ⟨some 45, .call 97 [(.t 43), (.t 44), (.c (.d (.str [97, 98, 99, 100, 101, 102, 103, 104, 105, 106, 107, 108, 109, 110, 111, 112, 113, 114, 115, 116, 117, 118, 119, 120, 121, 122, 48, 49, 50, 51, 52, 53, 54, 55, 56, 57])))], [], [], none, none⟩,
          ⟨some 7, .mv (.t 45), [], [], none, none⟩])
      (R_c3))
     (.seq (.region [0, 4, 5, 6, 7, 8, 50] (some [110]) none
         [⟨some 51, .mv (.t 6), [], [], none, none⟩,
          ⟨some 52, .call 96 [(.t 51), (.c (.d (.str [48, 49, 50, 51, 52, 53, 54, 55, 56, 57])))], [], [], none, none⟩,
          ⟨some 50, .mv (.t 52), [], [], none, none⟩])
      (.cond (.t 50) (.seq (.region [0, 4, 5, 7] (some [110]) none
           [⟨some 53, .mv (.t 0), [], [], none, none⟩,
            ⟨some 54, .mv (.t 5), [], [], none, none⟩,
            ⟨some 55, .call 97 [(.t 53), (.t 54), (.c (.d (.str [48, 49, 50, 51, 52, 53, 54, 55, 56, 57, 46, 37])))], [], [], none, none⟩,
            ⟨some 7, .mv (.t 55), [], [], none, none⟩])
        (R_c4))
       (.seq (.region [0, 4, 5, 6, 7, 8, 61] (some [110]) none
           [⟨some 62, .mv (.t 6), [], [], none, none⟩,
            ⟨some 63, .call 96 [(.t 62), (.c (.d (.str [61, 60, 62, 43, 45, 42, 40, 41, 44, 59])))], [], [], none, none⟩,
            ⟨some 61, .mv (.t 63), [], [], none, none⟩])
        (.cond (.t 61) (.seq (.region [0, 4, 5, 6, 7, 8] (some [110]) none
             [⟨some 8, .mv (.c (.d (.int .i64 5))), [], [], none, none⟩])
          (.seq (.region [0, 4, 5, 7, 8, 93] (some [110]) none
              (⟨some 64, .mv (.t 7), [], [], none, none⟩ ::
               ⟨some 65, .mv (.t 0), [], [], none, none⟩ ::
               ⟨some 66, .lenS (.t 65), [], [], none, none⟩ ::
               ⟨some 67, .bin .lss (.t 64) (.t 66), [], [], none, none⟩ ::
               ⟨some 68, .mv (.t 67), [], [], none, (some ([0, 4, 5, 6, 7, 8, 68], (some [110])))⟩ ::
               R_o4))
           (R_c5)))
         (.skip)))))))))) (St.mk s o) Q =
 (condK (s 18)
 (Q .normal (St.mk (look [(0, (s 0)), (4, (s 4)), (5, (s 5)), (7, (s 7)), (8, (V.d (.int .i64 (-1))))]) (looko ([110].map fun n => (n, o n)))))
 (demand (binV BinOp.eql (s 6) (V.d (.int .u8 35))) (fun x1 =>
condK x1
 (wpB C I R_l1 (St.mk (look [(0, (s 0)), (4, (s 4)), (5, (s 5)), (6, (s 6)), (7, (s 7)), (8, (s 8)), (25, x1)]) (looko ([110].map fun n => (n, o n)))) (blockK 3 [0, 4, 5, 7] (some [110]) (seqK (fun st => wpB C I R_c2 st Q) Q)))
 (callK C I (St.mk (upd (look [(0, (s 0)), (4, (s 4)), (5, (s 5)), (6, (s 6)), (7, (s 7)), (8, (s 8)), (25, x1)]) 41 (s 6)) (looko ([110].map fun n => (n, o n)))) (some 42) 96 [(s 6), (V.d (.str [97, 98, 99, 100, 101, 102, 103, 104, 105, 106, 107, 108, 109, 110, 111, 112, 113, 114, 115, 116, 117, 118, 119, 120, 121, 122]))] (fun r2 or2 =>
condK r2
 (callK C I (St.mk (upd (upd (look [(0, (s 0)), (4, (s 4)), (5, (s 5)), (6, (s 6)), (7, (s 7)), (8, (s 8)), (40, r2)]) 43 (s 0)) 44 (s 5)) (looko ([110].map fun n => (n, or2 n)))) (some 45) 97 [(s 0), (s 5), (V.d (.str [97, 98, 99, 100, 101, 102, 103, 104, 105, 106, 107, 108, 109, 110, 111, 112, 113, 114, 115, 116, 117, 118, 119, 120, 121, 122, 48, 49, 50, 51, 52, 53, 54, 55, 56, 57]))] (fun r3 or3 =>
wpB C I R_c3 (St.mk (look [(0, (s 0)), (4, (s 4)), (5, (s 5)), (7, r3), (8, (s 8))]) (looko ([110].map fun n => (n, or3 n)))) Q))
 (callK C I (St.mk (upd (look [(0, (s 0)), (4, (s 4)), (5, (s 5)), (6, (s 6)), (7, (s 7)), (8, (s 8)), (40, r2)]) 51 (s 6)) (looko ([110].map fun n => (n, or2 n)))) (some 52) 96 [(s 6), (V.d (.str [48, 49, 50, 51, 52, 53, 54, 55, 56, 57]))] (fun r4 or4 =>
condK r4
 (callK C I (St.mk (upd (upd (look [(0, (s 0)), (4, (s 4)), (5, (s 5)), (6, (s 6)), (7, (s 7)), (8, (s 8)), (50, r4)]) 53 (s 0)) 54 (s 5)) (looko ([110].map fun n => (n, or4 n)))) (some 55) 97 [(s 0), (s 5), (V.d (.str [48, 49, 50, 51, 52, 53, 54, 55, 56, 57, 46, 37]))] (fun r5 or5 =>
wpB C I R_c4 (St.mk (look [(0, (s 0)), (4, (s 4)), (5, (s 5)), (7, r5)]) (looko ([110].map fun n => (n, or5 n)))) Q))
 (callK C I (St.mk (upd (look [(0, (s 0)), (4, (s 4)), (5, (s 5)), (6, (s 6)), (7, (s 7)), (8, (s 8)), (50, r4)]) 62 (s 6)) (looko ([110].map fun n => (n, or4 n)))) (some 63) 96 [(s 6), (V.d (.str [61, 60, 62, 43, 45, 42, 40, 41, 44, 59]))] (fun r6 or6 =>
condK r6
 (demand (lenSV (s 0)) (fun x7 =>
demand (binV BinOp.lss (s 7) x7) (fun x8 =>
opsB C I R_o4 (St.mk (look [(0, (s 0)), (4, (s 4)), (5, (s 5)), (6, (s 6)), (7, (s 7)), (8, (V.d (.int .i64 5))), (68, x8)]) (looko ([110].map fun n => (n, or6 n)))) (fun st => (seqK (fun st => wpB C I R_c5 st Q) Q) .normal (St.trim st [0, 4, 5, 7, 8, 93] (some [110]))))))
 (Q .normal (St.mk (look [(0, (s 0)), (4, (s 4)), (5, (s 5)), (6, (s 6)), (7, (s 7)), (8, (s 8)), (61, r6)]) (looko ([110].map fun n => (n, or6 n)))))))))))))) := rfl
theorem g_ref07_All_c7_sh {C : Ctx} {I : Nat → Prop} {s : Nat → V} {o : Nat → Option Ob} {Q : Ex → St → Prop} : wpB C I (.region [0, 4, 5] (some [110]) none
   [⟨some 111, .mv (.t 7), [], [], none, none⟩,
    ⟨some 5, .mv (.t 111), [], [], none, none⟩]) (St.mk s o) Q =
 (Q .normal (St.mk (look [(0, (s 0)), (4, (s 4)), (5, (s 7))]) (looko ([110].map fun n => (n, o n))))) := rfl
theorem g_ref07_All_c8_sh {R_c7 : ACode} {C : Ctx} {I : Nat → Prop} {s : Nat → V} {o : Nat → Option Ob} {Q : Ex → St → Prop} : wpB C I (.seq (.seq (.region [0, 4, 5, 7, 8, 100] (some [110]) none
     [⟨some 99, .mv (.t 8), [], [], none, none⟩,
      ⟨some 100, .bin .gtr (.t 99) (.c (.d (.int .i64 0))), [], [], none, none⟩])
  (.cond (.t 100) (.region [0, 4, 7] (some [110]) none
      [⟨some 101, .mv (.t 4), [], [], none, none⟩,
       ⟨some 102, .mv (.t 8), [], [], none, none⟩,
       ⟨some 103, .mv (.t 0), [], [], none, none⟩,
       ⟨some 104, .mv (.t 5), [], [], none, none⟩,
       ⟨some 105, .mv (.t 7), [], [], none, none⟩,
       ⟨some 106, .slcS (.t 103) (some (.t 104)) (some (.t 105)), [], [], none, none⟩,
       ⟨some 107, .mv (.t 5), [], [], none, none⟩,
       ⟨some 108, .build [.d (.int .i64 0), .d (.str []), .d (.int .i64 0)] [(0, 1, (.t 102)), (1, 1, (.t 106)), (2, 1, (.t 107))], [], [], none, none⟩,
       ⟨some 109, .bsl none 3 [] 1 [(0, (.t 108))], [], [], none, none⟩,
       ⟨some 110, .app (some 110) 3 32 (.t 101) (.t 109), [], [], none, none⟩,
       ⟨some 4, .mv (.t 110), [], [], none, none⟩])
   (.skip)))
 (R_c7)) (St.mk s o) Q =
 (demand (binV BinOp.gtr (s 8) (V.d (.int .i64 0))) (fun x1 =>
condK x1
 (demand (slcSV (s 0) (some (s 5)) (some (s 7))) (fun x2 =>
demand ((buildN [V.d (.int .i64 0), V.d (.str []), V.d (.int .i64 0)] [(0, 1, (s 8)), (1, 1, x2), (2, 1, (s 5))]).map V.agg) (fun x3 =>
lstK (partsN 3 [x3]) (fun es4 =>
lstK (readD (looko ([110].map fun n => (n, o n))) (V.d (D.sl es4))) (fun ys5 => (∀ e ∈ ys5, e.length = 3) ∧ appK (s 4)
 (ys5.length * 32 ≤ 140737488355328 ∧ ys5.length ≤ 140737488355328 ∧ ¬ I 110 ∧ Fresh (St.mk (upd (upd (upd (upd (upd (upd (upd (upd (upd (look [(0, (s 0)), (4, (s 4)), (5, (s 5)), (7, (s 7)), (8, (s 8)), (100, x1)]) 101 (s 4)) 102 (s 8)) 103 (s 0)) 104 (s 5)) 105 (s 7)) 106 x2) 107 (s 5)) 108 x3) 109 (V.d (D.sl es4))) (looko ([110].map fun n => (n, o n)))) 110 (some 110) ∧
wpB C I R_c7 (St.mk (look [(0, (s 0)), (4, (V.own 110)), (7, (s 7))]) (looko ([110].map fun n => (n, (upd (looko ([110].map fun n => (n, o n))) 110 (some (Ob.row 3 ys5))) n)))) Q)
 (fun m6 => ¬ I m6 ∧ rowK ((looko ([110].map fun n => (n, o n))) m6) (fun z7 es8 => z7 = 3 ∧ (es8.length + ys5.length) * 32 ≤ 140737488355328 ∧ es8.length + ys5.length ≤ 140737488355328 ∧
wpB C I R_c7 (St.mk (look [(0, (scrubV m6 (s 0))), (4, (V.own m6)), (7, (scrubV m6 (s 7)))]) (looko ([110].map fun n => (n, (upd (fun n => ((looko ([110].map fun n => (n, o n))) n).map (Ob.scrub m6)) m6 (some (Ob.row 3 (es8 ++ ys5)))) n)))) Q)))))))
 (wpB C I R_c7 (St.mk (look [(0, (s 0)), (4, (s 4)), (5, (s 5)), (7, (s 7)), (8, (s 8)), (100, x1)]) (looko ([110].map fun n => (n, o n)))) Q))) := rfl
theorem g_ref07_All_c9_sh {R_c8 : ACode} {C : Ctx} {I : Nat → Prop} {s : Nat → V} {o : Nat → Option Ob} {Q : Ex → St → Prop} : wpB C I (.seq (.seq (.region [0, 4, 5, 7, 8, 97] (some [110]) none
     [⟨some 96, .mv (.t 8), [], [], none, none⟩,
      ⟨some 97, .bin .eql (.t 96) (.c (.d (.int .i64 0))), [], [], none, none⟩])
  (.cond (.t 97) (.seq (.region [2, 3] (some [110]) none
       [⟨some 98, .mv (.t 5), [], [], none, none⟩,
        ⟨some 2, .mv (.c (.cap0)), [], [], none, none⟩,
        ⟨some 3, .mv (.t 98), [], [], none, none⟩])
    (.ret))
   (.skip)))
 (R_c8)) (St.mk s o) Q =
 (demand (binV BinOp.eql (s 8) (V.d (.int .i64 0))) (fun x1 =>
condK x1
 (Q .ret (St.mk (look [(2, (V.cap0)), (3, (s 5))]) (looko ([110].map fun n => (n, o n)))))
 (wpB C I R_c8 (St.mk (look [(0, (s 0)), (4, (s 4)), (5, (s 5)), (7, (s 7)), (8, (s 8)), (97, x1)]) (looko ([110].map fun n => (n, o n)))) Q))) := rfl
theorem g_ref07_All_c10_sh {R_o0 : List AOper} {R_c6 : ACode} {R_c9 : ACode} {C : Ctx} {I : Nat → Prop} {s : Nat → V} {o : Nat → Option Ob} {Q : Ex → St → Prop} : wpB C I (.seq (.block 2 [0, 4, 5, 7, 8] (some [110]) (.seq (.region [0, 4, 5, 6, 7, 8, 18] (some [110]) none
      (⟨some 19, .mv (.t 6), [], [], none, none⟩ ::
       ⟨some 20, .bin .eql (.t 19) (.c (.d (.int .u8 32))), [], [], none, none⟩ ::
       ⟨some 21, .mv (.t 20), [], [], none, (some ([0, 4, 5, 6, 7, 8, 21], (some [110])))⟩ ::
       R_o0))
   (R_c6)))
 (R_c9)) (St.mk s o) Q =
 (demand (binV BinOp.eql (s 6) (V.d (.int .u8 32))) (fun x1 =>
opsB C I R_o0 (St.mk (look [(0, (s 0)), (4, (s 4)), (5, (s 5)), (6, (s 6)), (7, (s 7)), (8, (s 8)), (21, x1)]) (looko ([110].map fun n => (n, o n)))) (fun st => (seqK (fun st => wpB C I R_c6 st (blockK 2 [0, 4, 5, 7, 8] (some [110]) (seqK (fun st => wpB C I R_c9 st Q) Q))) (blockK 2 [0, 4, 5, 7, 8] (some [110]) (seqK (fun st => wpB C I R_c9 st Q) Q))) .normal (St.trim st [0, 4, 5, 6, 7, 8, 18] (some [110]))))) := rfl
theorem g_ref07_All_c11_sh {R_c10 : ACode} {C : Ctx} {I : Nat → Prop} {s : Nat → V} {o : Nat → Option Ob} {Q : Ex → St → Prop} : wpB C I (.seq (.region [0, 4, 5, 6, 7, 8] (some [110]) none
    [⟨some 16, .mv (.t 5), [], [], none, none⟩,
     ⟨some 17, .bin .add (.t 16) (.c (.d (.int .i64 1))), [], [], none, none⟩,
     ⟨some 7, .mv (.t 17), [], [], none, none⟩,
     ⟨some 8, .mv (.c (.d (.int .i64 0))), [], [], none, none⟩])
 (R_c10)) (St.mk s o) Q =
 (demand (binV BinOp.add (s 5) (V.d (.int .i64 1))) (fun x1 =>
wpB C I R_c10 (St.mk (look [(0, (s 0)), (4, (s 4)), (5, (s 5)), (6, (s 6)), (7, x1), (8, (V.d (.int .i64 0)))]) (looko ([110].map fun n => (n, o n)))) Q)) := rfl
theorem g_ref07_All_c12_sh {R_c11 : ACode} {C : Ctx} {I : Nat → Prop} {s : Nat → V} {o : Nat → Option Ob} {Q : Ex → St → Prop} : wpB C I (.block 1 [0, 4, 5] (some [110]) (.seq (.region [0, 4, 5, 6] (some [110]) none
     [⟨some 13, .mv (.t 0), [], [], none, none⟩,
      ⟨some 14, .mv (.t 5), [], [], none, none⟩,
      ⟨some 15, .idx (.t 13) (.t 14), [], [], none, none⟩,
      ⟨some 6, .mv (.t 15), [], [], none, none⟩])
  (R_c11))) (St.mk s o) Q =
 (demand (idxV (s 0) (s 5)) (fun x1 =>
wpB C I R_c11 (St.mk (look [(0, (s 0)), (4, (s 4)), (5, (s 5)), (6, x1)]) (looko ([110].map fun n => (n, o n)))) (blockK 1 [0, 4, 5] (some [110]) Q))) := rfl
theorem g_ref07_All_l0_sh {R_l0 : ACode} {R_c12 : ACode} {C : Ctx} {I : Nat → Prop} {s : Nat → V} {o : Nat → Option Ob} {Q : Ex → St → Prop} (hL : R_l0 = .loop [0, 4, 5] (some [110]) (.seq (.seq (.region [0, 4, 5, 12] (some [110]) none
      [⟨some 9, .mv (.t 5), [], [], none, none⟩,
       ⟨some 10, .mv (.t 0), [], [], none, none⟩,
       ⟨some 11, .lenS (.t 10), [], [], none, none⟩,
       ⟨some 12, .bin .lss (.t 9) (.t 11), [], [], none, none⟩])
   (.cond (.t 12) (.skip)
    (.exit 0)))
  (R_c12)))
 (h : demand (lenSV (s 0)) (fun x1 =>
demand (binV BinOp.lss (s 5) x1) (fun x2 =>
condK x2
 (wpB C I R_c12 (St.mk (look [(0, (s 0)), (4, (s 4)), (5, (s 5)), (12, x2)]) (looko ([110].map fun n => (n, o n)))) (seqK (fun s => wpB C I R_l0 s Q) Q))
 (Q (.exit 0) (St.mk (look [(0, (s 0)), (4, (s 4)), (5, (s 5)), (12, x2)]) (looko ([110].map fun n => (n, o n)))))))) : wpB C I R_l0 (St.mk s o) Q := w_loopC hL h
theorem g_ref07_All_c13_sh {C : Ctx} {I : Nat → Prop} {s : Nat → V} {o : Nat → Option Ob} {Q : Ex → St → Prop} : wpB C I (.seq (.region [2, 3] (some [110]) none
    [⟨some 112, .mv (.t 4), [], [], none, none⟩,
     ⟨some 2, .mv (.t 112), [], [], none, none⟩,
     ⟨some 3, .mv (.c (.d (.int .i64 (-1)))), [], [], none, none⟩])
 (.ret)) (St.mk s o) Q =
 (Q .ret (St.mk (look [(2, (s 4)), (3, (V.d (.int .i64 (-1))))]) (looko ([110].map fun n => (n, o n))))) := rfl
theorem g_ref07_All_code_sh {R_l0 : ACode} {R_c13 : ACode} {C : Ctx} {I : Nat → Prop} {s : Nat → V} {o : Nat → Option Ob} {Q : Ex → St → Prop} : wpB C I (.seq (.region [0] (some []) none
    [⟨some 2, .mv (.c (.cap0)), [], [], none, none⟩,
     ⟨some 3, .mv (.c (.d (.int .i64 0))), [], [], none, none⟩])
 (.seq (.region [0, 4] (some [110]) none
     [⟨some 4, .mv (.c (.cap0)), [], [], none, none⟩])
  (.seq (.seq (.region [0, 4, 5] (some [110]) none
       [⟨some 5, .mv (.c (.d (.int .i64 0))), [], [], none, none⟩])
    (.block 0 [4] (some [110]) (R_l0)))
   (R_c13)))) (St.mk s o) Q =
 (wpB C I R_l0 (St.mk (look [(0, (s 0)), (4, (V.cap0)), (5, (V.d (.int .i64 0)))]) (looko ([110].map fun n => (n, (looko ([].map fun n => (n, o n))) n)))) (blockK 0 [4] (some [110]) (seqK (fun st => wpB C I R_c13 st Q) Q))) := rfl
theorem g_rate_Right_o1_sh {C : Ctx} {I : Nat → Prop} {s : Nat → V} {o : Nat → Option Ob} {K : St → Prop} : opsB C I [⟨some 8, .pick (.t 5) (.t 7) (.c (.d (.bool false))), [], [], none, none⟩,
     ⟨some 2, .mv (.t 8), [], [], none, none⟩] (St.mk s o) K =
 (demand (pickV (s 5) (s 7) (V.d (.bool false))) (fun x1 =>
K (St.mk (upd (upd s 8 x1) 2 x1) o))) := rfl
theorem g_rate_Right_o0_sh {R_o1 : List AOper} {C : Ctx} {I : Nat → Prop} {s : Nat → V} {o : Nat → Option Ob} {K : St → Prop} : opsB C I (⟨some 6, .mv (.t 0), [], [], (some (2, 5, true)), none⟩ ::
     ⟨some 7, .bin .leq (.t 6) (.c (.d (.int .i64 10000))), [], [], (some (2, 5, true)), (some ([5, 7], (some [])))⟩ ::
     R_o1) (St.mk s o) K =
 (guardK (s 5) true
 (demand (binV BinOp.leq (s 0) (V.d (.int .i64 10000))) (fun x1 =>
opsB C I R_o1 (St.mk (look [(5, (V.d (D.bool true))), (7, x1)]) (looko ([].map fun n => (n, o n)))) K))
 (opsB C I R_o1 (St.mk (look [(5, (V.d (D.bool false))), (7, (V.tup []))]) (looko ([].map fun n => (n, o n)))) K)
 (opsB C I R_o1 (St.mk (look [(5, (V.tup [])), (7, (V.tup []))]) (looko ([].map fun n => (n, o n)))) K)) := rfl
theorem g_rate_Right_c0_sh {C : Ctx} {I : Nat → Prop} {s : Nat → V} {o : Nat → Option Ob} {Q : Ex → St → Prop} : wpB C I (.ret) (St.mk s o) Q =
 (Q .ret (St.mk s o)) := rfl
theorem g_rate_Right_code_sh {R_o0 : List AOper} {R_c0 : ACode} {C : Ctx} {I : Nat → Prop} {s : Nat → V} {o : Nat → Option Ob} {Q : Ex → St → Prop} : wpB C I (.seq (.region [0] (some []) none
    [⟨some 2, .mv (.c (.d (.bool false))), [], [], none, none⟩])
 (.seq (.region [2] (some []) none
     (⟨some 3, .mv (.t 0), [], [], none, none⟩ ::
      ⟨some 4, .bin .geq (.t 3) (.c (.d (.int .i64 0))), [], [], none, none⟩ ::
      ⟨some 5, .mv (.t 4), [], [], none, (some ([0, 5], (some [])))⟩ ::
      R_o0))
  (R_c0))) (St.mk s o) Q =
 (demand (binV BinOp.geq (s 0) (V.d (.int .i64 0))) (fun x1 =>
opsB C I R_o0 (St.mk (look [(0, (s 0)), (5, x1)]) (looko ([].map fun n => (n, o n)))) (fun st => (seqK (fun st => wpB C I R_c0 st Q) Q) .normal (St.trim st [2] (some []))))) := rfl
theorem g_rate_Parse_o3_sh {C : Ctx} {I : Nat → Prop} {s : Nat → V} {o : Nat → Option Ob} {K : St → Prop} : opsB C I [⟨some 28, .pick (.t 24) (.c (.d (.bool true))) (.t 27), [], [], none, none⟩] (St.mk s o) K =
 (demand (pickV (s 24) (V.d (.bool true)) (s 27)) (fun x1 =>
K (St.mk (upd s 28 x1) o))) := rfl
theorem g_rate_Parse_o2_sh {R_o3 : List AOper} {C : Ctx} {I : Nat → Prop} {s : Nat → V} {o : Nat → Option Ob} {K : St → Prop} : opsB C I (⟨some 25, .mv (.t 6), [], [], (some (6, 24, false)), none⟩ ::
     ⟨some 26, .call 88 [(.t 25)], [], [], (some (6, 24, false)), none⟩ ::
     ⟨some 27, .un .not (.t 26), [], [], (some (6, 24, false)), (some ([6, 24, 27], (some [])))⟩ ::
     R_o3) (St.mk s o) K =
 (guardK (s 24) false
 (callK C I (St.mk (upd (upd (upd s 24 (V.d (D.bool false))) 25 (s 6)) 24 (V.d (D.bool false))) o) (some 26) 88 [(s 6)] (fun r1 or1 =>
demand (unV UnOp.not r1) (fun x2 =>
opsB C I R_o3 (St.mk (look [(6, (s 6)), (24, (V.d (D.bool false))), (27, x2)]) (looko ([].map fun n => (n, or1 n)))) K)))
 (opsB C I R_o3 (St.mk (look [(6, (s 6)), (24, (V.d (D.bool true))), (27, (V.tup []))]) (looko ([].map fun n => (n, o n)))) K)
 (opsB C I R_o3 (St.mk (look [(6, (s 6)), (24, (V.tup [])), (27, (V.tup []))]) (looko ([].map fun n => (n, o n)))) K)) := rfl
theorem g_rate_Parse_o1_sh {R_o2 : List AOper} {C : Ctx} {I : Nat → Prop} {s : Nat → V} {o : Nat → Option Ob} {K : St → Prop} : opsB C I (⟨some 23, .pick (.t 20) (.c (.d (.bool true))) (.t 22), [], [], none, none⟩ ::
     ⟨some 24, .mv (.t 23), [], [], none, (some ([6, 24], (some [])))⟩ ::
     R_o2) (St.mk s o) K =
 (demand (pickV (s 20) (V.d (.bool true)) (s 22)) (fun x1 =>
opsB C I R_o2 (St.mk (look [(6, (s 6)), (24, x1)]) (looko ([].map fun n => (n, o n)))) K)) := rfl
theorem g_rate_Parse_o0_sh {R_o1 : List AOper} {C : Ctx} {I : Nat → Prop} {s : Nat → V} {o : Nat → Option Ob} {K : St → Prop} : opsB C I (⟨some 21, .mv (.t 7), [], [], (some (2, 20, false)), none⟩ ::
     ⟨some 22, .un .not (.t 21), [], [], (some (2, 20, false)), (some ([6, 20, 22], (some [])))⟩ ::
     R_o1) (St.mk s o) K =
 (guardK (s 20) false
 (demand (unV UnOp.not (s 7)) (fun x1 =>
opsB C I R_o1 (St.mk (look [(6, (s 6)), (20, (V.d (D.bool false))), (22, x1)]) (looko ([].map fun n => (n, o n)))) K))
 (opsB C I R_o1 (St.mk (look [(6, (s 6)), (20, (V.d (D.bool true))), (22, (V.tup []))]) (looko ([].map fun n => (n, o n)))) K)
 (opsB C I R_o1 (St.mk (look [(6, (s 6)), (20, (V.tup [])), (22, (V.tup []))]) (looko ([].map fun n => (n, o n)))) K)) := rfl
theorem g_rate_Parse_c0_sh {C : Ctx} {I : Nat → Prop} {s : Nat → V} {o : Nat → Option Ob} {Q : Ex → St → Prop} : wpB C I (.cond (.t 28) (.seq (.region [2, 3] (some []) none
     [⟨some 2, .mv (.c (.d (.int .i64 0))), [], [], none, none⟩,
      ⟨some 3, .mv (.c (.d (.bool false))), [], [], none, none⟩])
  (.ret))
 (.skip)) (St.mk s o) Q =
 (condK (s 28)
 (Q .ret (St.mk (look [(2, (V.d (.int .i64 0))), (3, (V.d (.bool false)))]) (looko ([].map fun n => (n, o n)))))
 (Q .normal (St.mk s o))) := rfl
theorem g_rate_Parse_c1_sh {C : Ctx} {I : Nat → Prop} {s : Nat → V} {o : Nat → Option Ob} {Q : Ex → St → Prop} : wpB C I (.seq (.region [2, 3] (some []) none
    [⟨some 29, .mv (.t 6), [], [], none, none⟩,
     ⟨some 2, .mv (.t 29), [], [], none, none⟩,
     ⟨some 3, .mv (.c (.d (.bool true))), [], [], none, none⟩])
 (.ret)) (St.mk s o) Q =
 (Q .ret (St.mk (look [(2, (s 6)), (3, (V.d (.bool true)))]) (looko ([].map fun n => (n, o n))))) := rfl
theorem g_rate_Parse_c2_sh {R_o0 : List AOper} {R_c0 : ACode} {R_c1 : ACode} {C : Ctx} {I : Nat → Prop} {s : Nat → V} {o : Nat → Option Ob} {Q : Ex → St → Prop} : wpB C I (.seq (.seq (.region [6, 28] (some []) none
     (⟨some 18, .mv (.t 5), [], [], none, none⟩ ::
      ⟨some 19, .un .not (.t 18), [], [], none, none⟩ ::
      ⟨some 20, .mv (.t 19), [], [], none, (some ([6, 7, 20], (some [])))⟩ ::
      R_o0))
  (R_c0))
 (R_c1)) (St.mk s o) Q =
 (demand (unV UnOp.not (s 5)) (fun x1 =>
opsB C I R_o0 (St.mk (look [(6, (s 6)), (7, (s 7)), (20, x1)]) (looko ([].map fun n => (n, o n)))) (fun st => (seqK (fun st => wpB C I R_c0 st (seqK (fun st => wpB C I R_c1 st Q) Q)) (seqK (fun st => wpB C I R_c1 st Q) Q)) .normal (St.trim st [6, 28] (some []))))) := rfl
theorem g_rate_Parse_c3_sh {R_c2 : ACode} {C : Ctx} {I : Nat → Prop} {s : Nat → V} {o : Nat → Option Ob} {Q : Ex → St → Prop} : wpB C I (.seq (.region [5, 6, 7] (some []) none
    [⟨some 14, .mv (.t 4), [], [], none, none⟩,
     ⟨some 15, .call 51 [(.t 14)], [], [], none, none⟩,
     ⟨some 13, .mv (.t 15), [], [], none, none⟩,
     ⟨some 16, .ext (.t 13) 0, [], [], none, none⟩,
     ⟨some 17, .ext (.t 13) 1, [], [], none, none⟩,
     ⟨some 6, .mv (.t 16), [], [], none, none⟩,
     ⟨some 7, .mv (.t 17), [], [], none, none⟩])
 (R_c2)) (St.mk s o) Q =
 (callK C I (St.mk (upd s 14 (s 4)) o) (some 15) 51 [(s 4)] (fun r1 or1 =>
demand (extV r1 0) (fun x2 =>
demand (extV r1 1) (fun x3 =>
wpB C I R_c2 (St.mk (look [(5, (s 5)), (6, x2), (7, x3)]) (looko ([].map fun n => (n, or1 n)))) Q)))) := rfl
theorem g_rate_Parse_code_sh {R_c3 : ACode} {C : Ctx} {I : Nat → Prop} {s : Nat → V} {o : Nat → Option Ob} {Q : Ex → St → Prop} : wpB C I (.seq (.region [0] (some []) none
    [⟨some 2, .mv (.c (.d (.int .i64 0))), [], [], none, none⟩,
     ⟨some 3, .mv (.c (.d (.bool false))), [], [], none, none⟩])
 (.seq (.region [4, 5] (some []) none
     [⟨some 9, .mv (.t 0), [], [], none, none⟩,
      ⟨some 10, .call 101 [(.t 9), (.c (.d (.str [37])))], [], [], none, none⟩,
      ⟨some 8, .mv (.t 10), [], [], none, none⟩,
      ⟨some 11, .ext (.t 8) 0, [], [], none, none⟩,
      ⟨some 12, .ext (.t 8) 1, [], [], none, none⟩,
      ⟨some 4, .mv (.t 11), [], [], none, none⟩,
      ⟨some 5, .mv (.t 12), [], [], none, none⟩])
  (R_c3))) (St.mk s o) Q =
 (callK C I (St.mk (upd (look [(0, (s 0))]) 9 (s 0)) (looko ([].map fun n => (n, o n)))) (some 10) 101 [(s 0), (V.d (.str [37]))] (fun r1 or1 =>
demand (extV r1 0) (fun x2 =>
demand (extV r1 1) (fun x3 =>
wpB C I R_c3 (St.mk (look [(4, x2), (5, x3)]) (looko ([].map fun n => (n, or1 n)))) Q)))) := rfl
theorem g_ref03_Parse_o1_sh {C : Ctx} {I : Nat → Prop} {s : Nat → V} {o : Nat → Option Ob} {K : St → Prop} : opsB C I [⟨some 17, .pick (.t 12) (.t 16) (.c (.d (.bool false))), [], [], none, none⟩] (St.mk s o) K =
 (demand (pickV (s 12) (s 16) (V.d (.bool false))) (fun x1 =>
K (St.mk (upd s 17 x1) o))) := rfl
theorem g_ref03_Parse_o0_sh {R_o1 : List AOper} {C : Ctx} {I : Nat → Prop} {s : Nat → V} {o : Nat → Option Ob} {K : St → Prop} : opsB C I (⟨some 13, .mv (.t 4), [], [], (some (3, 12, true)), none⟩ ::
     ⟨some 14, .call 94 [(.t 13)], [], [], (some (3, 12, true)), none⟩ ::
     ⟨some 15, .mv (.t 0), [], [], (some (3, 12, true)), none⟩ ::
     ⟨some 16, .bin .eql (.t 14) (.t 15), [], [], (some (3, 12, true)), (some ([0, 4, 12, 16], (some [])))⟩ ::
     R_o1) (St.mk s o) K =
 (guardK (s 12) true
 (callK C I (St.mk (upd (upd (upd s 12 (V.d (D.bool true))) 13 (s 4)) 12 (V.d (D.bool true))) o) (some 14) 94 [(s 4)] (fun r1 or1 =>
demand (binV BinOp.eql r1 (s 0)) (fun x2 =>
opsB C I R_o1 (St.mk (look [(0, (s 0)), (4, (s 4)), (12, (V.d (D.bool true))), (16, x2)]) (looko ([].map fun n => (n, or1 n)))) K)))
 (opsB C I R_o1 (St.mk (look [(0, (s 0)), (4, (s 4)), (12, (V.d (D.bool false))), (16, (V.tup []))]) (looko ([].map fun n => (n, o n)))) K)
 (opsB C I R_o1 (St.mk (look [(0, (s 0)), (4, (s 4)), (12, (V.tup [])), (16, (V.tup []))]) (looko ([].map fun n => (n, o n)))) K)) := rfl
theorem g_ref03_Parse_c0_sh {C : Ctx} {I : Nat → Prop} {s : Nat → V} {o : Nat → Option Ob} {Q : Ex → St → Prop} : wpB C I (.cond (.t 17) (.seq (.region [2, 3] (some []) none
     [⟨some 18, .mv (.t 4), [], [], none, none⟩,
      ⟨some 2, .mv (.t 18), [], [], none, none⟩,
      ⟨some 3, .mv (.c (.d (.bool true))), [], [], none, none⟩])
  (.ret))
 (.skip)) (St.mk s o) Q =
 (condK (s 17)
 (Q .ret (St.mk (look [(2, (s 4)), (3, (V.d (.bool true)))]) (looko ([].map fun n => (n, o n)))))
 (Q .normal (St.mk s o))) := rfl
theorem g_ref03_Parse_c1_sh {C : Ctx} {I : Nat → Prop} {s : Nat → V} {o : Nat → Option Ob} {Q : Ex → St → Prop} : wpB C I (.region [0, 4] (some []) none
   [⟨some 7, .mv (.t 4), [], [], none, none⟩,
    ⟨some 8, .bin .add (.t 7) (.c (.d (.int .i64 1))), [], [], none, none⟩,
    ⟨some 4, .mv (.t 8), [], [], none, none⟩]) (St.mk s o) Q =
 (demand (binV BinOp.add (s 4) (V.d (.int .i64 1))) (fun x1 =>
Q .normal (St.mk (look [(0, (s 0)), (4, x1)]) (looko ([].map fun n => (n, o n)))))) := rfl
theorem g_ref03_Parse_l0_sh {R_l0 : ACode} {R_o0 : List AOper} {R_c0 : ACode} {R_c1 : ACode} {C : Ctx} {I : Nat → Prop} {s : Nat → V} {o : Nat → Option Ob} {Q : Ex → St → Prop} (hL : R_l0 = .loop [0, 4] (some []) (.seq (.seq (.region [0, 4, 6] (some []) none
      [⟨some 5, .mv (.t 4), [], [], none, none⟩,
       ⟨some 6, .bin .leq (.t 5) (.c (.d (.int .i64 10000))), [], [], none, none⟩])
   (.cond (.t 6) (.skip)
    (.exit 0)))
  (.seq (.block 1 [0, 4] (some []) (.seq (.region [0, 4, 17] (some []) none
        (⟨some 9, .mv (.t 0), [], [], none, none⟩ ::
         ⟨some 10, .lenS (.t 9), [], [], none, none⟩ ::
         ⟨some 11, .bin .lss (.t 10) (.c (.d (.int .i64 9))), [], [], none, none⟩ ::
         ⟨some 12, .mv (.t 11), [], [], none, (some ([0, 4, 12], (some [])))⟩ ::
         R_o0))
     (R_c0)))
   (R_c1))))
 (h : demand (binV BinOp.leq (s 4) (V.d (.int .i64 10000))) (fun x1 =>
condK x1
 (demand (lenSV (s 0)) (fun x2 =>
demand (binV BinOp.lss x2 (V.d (.int .i64 9))) (fun x3 =>
opsB C I R_o0 (St.mk (look [(0, (s 0)), (4, (s 4)), (12, x3)]) (looko ([].map fun n => (n, o n)))) (fun st => (seqK (fun st => wpB C I R_c0 st (blockK 1 [0, 4] (some []) (seqK (fun st => wpB C I R_c1 st (seqK (fun s => wpB C I R_l0 s Q) Q)) (seqK (fun s => wpB C I R_l0 s Q) Q)))) (blockK 1 [0, 4] (some []) (seqK (fun st => wpB C I R_c1 st (seqK (fun s => wpB C I R_l0 s Q) Q)) (seqK (fun s => wpB C I R_l0 s Q) Q)))) .normal (St.trim st [0, 4, 17] (some []))))))
 (Q (.exit 0) (St.mk (look [(0, (s 0)), (4, (s 4)), (6, x1)]) (looko ([].map fun n => (n, o n))))))) : wpB C I R_l0 (St.mk s o) Q := w_loopC hL h
theorem g_ref03_Parse_c2_sh {C : Ctx} {I : Nat → Prop} {s : Nat → V} {o : Nat → Option Ob} {Q : Ex → St → Prop} : wpB C I (.seq (.region [2, 3] (some []) none
    [⟨some 2, .mv (.c (.d (.int .i64 0))), [], [], none, none⟩,
     ⟨some 3, .mv (.c (.d (.bool false))), [], [], none, none⟩])
 (.ret)) (St.mk s o) Q =
 (Q .ret (St.mk (look [(2, (V.d (.int .i64 0))), (3, (V.d (.bool false)))]) (looko ([].map fun n => (n, o n))))) := rfl
theorem g_ref03_Parse_code_sh {R_l0 : ACode} {R_c2 : ACode} {C : Ctx} {I : Nat → Prop} {s : Nat → V} {o : Nat → Option Ob} {Q : Ex → St → Prop} : wpB C I (.seq (.region [0] (some []) none
    [⟨some 2, .mv (.c (.d (.int .i64 0))), [], [], none, none⟩,
     ⟨some 3, .mv (.c (.d (.bool false))), [], [], none, none⟩])
 (.seq (.seq (.region [0, 4] (some []) none
      [⟨some 4, .mv (.c (.d (.int .i64 0))), [], [], none, none⟩])
   (.block 0 [] (some []) (R_l0)))
  (R_c2))) (St.mk s o) Q =
 (wpB C I R_l0 (St.mk (look [(0, (s 0)), (4, (V.d (.int .i64 0)))]) (looko ([].map fun n => (n, o n)))) (blockK 0 [] (some []) (seqK (fun st => wpB C I R_c2 st Q) Q))) := rfl
theorem g_ref03_Text_code_sh {C : Ctx} {I : Nat → Prop} {s : Nat → V} {o : Nat → Option Ob} {Q : Ex → St → Prop} : wpB C I (.seq (.region [0] (some []) none
    [⟨some 2, .mv (.c (.d (.str []))), [], [], none, none⟩])
 (.seq (.region [2] (some []) none
     [⟨some 3, .mv (.t 0), [], [], none, none⟩,
      ⟨some 4, .call 54 [(.t 3)], [], [], none, none⟩,
      ⟨some 5, .bin .add (.t 4) (.c (.d (.str [37]))), [], [], none, none⟩,
      ⟨some 2, .mv (.t 5), [], [], none, none⟩])
  (.ret))) (St.mk s o) Q =
 (callK C I (St.mk (upd (look [(0, (s 0))]) 3 (s 0)) (looko ([].map fun n => (n, o n)))) (some 4) 54 [(s 0)] (fun r1 or1 =>
demand (binV BinOp.add r1 (V.d (.str [37]))) (fun x2 =>
Q .ret (St.mk (look [(2, x2)]) (looko ([].map fun n => (n, or1 n))))))) := rfl
theorem g_lex_run_o1_sh {C : Ctx} {I : Nat → Prop} {s : Nat → V} {o : Nat → Option Ob} {K : St → Prop} : opsB C I [⟨some 19, .pick (.t 13) (.t 18) (.c (.d (.bool false))), [], [], none, none⟩] (St.mk s o) K =
 (demand (pickV (s 13) (s 18) (V.d (.bool false))) (fun x1 =>
K (St.mk (upd s 19 x1) o))) := rfl
theorem g_lex_run_o0_sh {R_o1 : List AOper} {C : Ctx} {I : Nat → Prop} {s : Nat → V} {o : Nat → Option Ob} {K : St → Prop} : opsB C I (⟨some 14, .mv (.t 2), [], [], (some (4, 13, true)), none⟩ ::
     ⟨some 15, .mv (.t 0), [], [], (some (4, 13, true)), none⟩ ::
     ⟨some 16, .mv (.t 7), [], [], (some (4, 13, true)), none⟩ ::
     ⟨some 17, .idx (.t 15) (.t 16), [], [], (some (4, 13, true)), none⟩ ::
     ⟨some 18, .callv (.t 14) [(.t 17)], [], [], (some (4, 13, true)), (some ([0, 1, 2, 7, 13, 18], none))⟩ ::
     R_o1) (St.mk s o) K =
 (guardK (s 13) true
 (demand (idxV (s 0) (s 7)) (fun x1 =>
fnK (s 2) (fun f3 cs4 => callK C I (St.mk (upd (upd (upd (upd (upd (upd (upd (upd (upd s 13 (V.d (D.bool true))) 14 (s 2)) 13 (V.d (D.bool true))) 15 (s 0)) 13 (V.d (D.bool true))) 16 (s 7)) 13 (V.d (D.bool true))) 17 x1) 13 (V.d (D.bool true))) o) (some 18) f3 ([x1] ++ cs4) (fun r2 or2 =>
opsB C I R_o1 (St.mk (look [(0, (s 0)), (1, (s 1)), (2, (s 2)), (7, (s 7)), (13, (V.d (D.bool true))), (18, r2)]) or2) K))))
 (opsB C I R_o1 (St.mk (look [(0, (s 0)), (1, (s 1)), (2, (s 2)), (7, (s 7)), (13, (V.d (D.bool false))), (18, (V.tup []))]) o) K)
 (opsB C I R_o1 (St.mk (look [(0, (s 0)), (1, (s 1)), (2, (s 2)), (7, (s 7)), (13, (V.tup [])), (18, (V.tup []))]) o) K)) := rfl
theorem g_lex_run_c0_sh {C : Ctx} {I : Nat → Prop} {s : Nat → V} {o : Nat → Option Ob} {Q : Ex → St → Prop} : wpB C I (.cond (.t 19) (.skip)
 (.exit 0)) (St.mk s o) Q =
 (condK (s 19)
 (Q .normal (St.mk s o))
 (Q (.exit 0) (St.mk s o))) := rfl
theorem g_lex_run_c1_sh {C : Ctx} {I : Nat → Prop} {s : Nat → V} {o : Nat → Option Ob} {Q : Ex → St → Prop} : wpB C I (.block 1 [0, 1, 2, 7] none (.region [0, 1, 2, 7] none none
    [⟨some 20, .mv (.t 7), [], [], none, none⟩,
     ⟨some 21, .bin .add (.t 20) (.c (.d (.int .i64 1))), [], [], none, none⟩,
     ⟨some 7, .mv (.t 21), [], [], none, none⟩])) (St.mk s o) Q =
 (demand (binV BinOp.add (s 7) (V.d (.int .i64 1))) (fun x1 =>
Q .normal (St.mk (look [(0, (s 0)), (1, (s 1)), (2, (s 2)), (7, x1)]) o))) := rfl
theorem g_lex_run_l0_sh {R_l0 : ACode} {R_o0 : List AOper} {R_c0 : ACode} {R_c1 : ACode} {C : Ctx} {I : Nat → Prop} {s : Nat → V} {o : Nat → Option Ob} {Q : Ex → St → Prop} (hL : R_l0 = .loop [0, 1, 2, 7] none (.seq (.seq (.region [0, 1, 2, 7, 19] none none
      (⟨some 9, .mv (.t 7), [], [], none, none⟩ ::
       ⟨some 10, .mv (.t 0), [], [], none, none⟩ ::
       ⟨some 11, .lenS (.t 10), [], [], none, none⟩ ::
       ⟨some 12, .bin .lss (.t 9) (.t 11), [], [], none, none⟩ ::
       ⟨some 13, .mv (.t 12), [], [], none, (some ([0, 1, 2, 7, 13], none))⟩ ::
       R_o0))
   (R_c0))
  (R_c1)))
 (h : demand (lenSV (s 0)) (fun x1 =>
demand (binV BinOp.lss (s 7) x1) (fun x2 =>
opsB C I R_o0 (St.mk (look [(0, (s 0)), (1, (s 1)), (2, (s 2)), (7, (s 7)), (13, x2)]) o) (fun st => (seqK (fun st => wpB C I R_c0 st (seqK (fun st => wpB C I R_c1 st (seqK (fun s => wpB C I R_l0 s Q) Q)) (seqK (fun s => wpB C I R_l0 s Q) Q))) (seqK (fun st => wpB C I R_c1 st (seqK (fun s => wpB C I R_l0 s Q) Q)) (seqK (fun s => wpB C I R_l0 s Q) Q))) .normal (St.trim st [0, 1, 2, 7, 19] none))))) : wpB C I R_l0 (St.mk s o) Q := w_loopC hL h
theorem g_lex_run_c2_sh {C : Ctx} {I : Nat → Prop} {s : Nat → V} {o : Nat → Option Ob} {Q : Ex → St → Prop} : wpB C I (.seq (.region [6] none none
    [⟨some 22, .mv (.t 7), [], [], none, none⟩,
     ⟨some 23, .mv (.t 1), [], [], none, none⟩,
     ⟨some 24, .bin .sub (.t 22) (.t 23), [], [], none, none⟩,
     ⟨some 6, .mv (.t 24), [], [], none, none⟩])
 (.ret)) (St.mk s o) Q =
 (demand (binV BinOp.sub (s 7) (s 1)) (fun x1 =>
Q .ret (St.mk (look [(6, x1)]) o))) := rfl
theorem g_lex_run_code_sh {R_l0 : ACode} {R_c2 : ACode} {C : Ctx} {I : Nat → Prop} {s : Nat → V} {o : Nat → Option Ob} {Q : Ex → St → Prop} : wpB C I (.seq (.region [0, 1, 2] none none
    [⟨some 6, .mv (.c (.d (.int .i64 0))), [], [], none, none⟩])
 (.seq (.region [0, 1, 2, 7] none none
     [⟨some 8, .mv (.t 1), [], [], none, none⟩,
      ⟨some 7, .mv (.t 8), [], [], none, none⟩])
  (.seq (.block 0 [1, 7] none (R_l0))
   (R_c2)))) (St.mk s o) Q =
 (wpB C I R_l0 (St.mk (look [(0, (s 0)), (1, (s 1)), (2, (s 2)), (7, (s 1))]) o) (blockK 0 [1, 7] none (seqK (fun st => wpB C I R_c2 st Q) Q))) := rfl
theorem g_lex_All_1_code_sh {C : Ctx} {I : Nat → Prop} {s : Nat → V} {o : Nat → Option Ob} {Q : Ex → St → Prop} : wpB C I (.seq (.region [0] (some []) none
    [⟨some 2, .mv (.c (.d (.bool false))), [], [], none, none⟩])
 (.seq (.region [2] (some []) none
     [⟨some 3, .mv (.t 0), [], [], none, none⟩,
      ⟨some 4, .bin .neq (.t 3) (.c (.d (.int .u8 10))), [], [], none, none⟩,
      ⟨some 2, .mv (.t 4), [], [], none, none⟩])
  (.ret))) (St.mk s o) Q =
 (demand (binV BinOp.neq (s 0) (V.d (.int .u8 10))) (fun x1 =>
Q .ret (St.mk (look [(2, x1)]) (looko ([].map fun n => (n, o n)))))) := rfl
theorem g_lex_one_c0_sh {C : Ctx} {I : Nat → Prop} {s : Nat → V} {o : Nat → Option Ob} {Q : Ex → St → Prop} : wpB C I (.seq (.region [4, 5] (some []) none
    [⟨some 21, .mv (.t 7), [], [], none, none⟩,
     ⟨some 4, .mv (.c (.d (.int .i64 1))), [], [], none, none⟩,
     ⟨some 5, .mv (.t 21), [], [], none, none⟩])
 (.ret)) (St.mk s o) Q =
 (Q .ret (St.mk (look [(4, (V.d (.int .i64 1))), (5, (s 7))]) (looko ([].map fun n => (n, o n))))) := rfl
theorem g_lex_one_c1_sh {R_c0 : ACode} {C : Ctx} {I : Nat → Prop} {s : Nat → V} {o : Nat → Option Ob} {Q : Ex → St → Prop} : wpB C I (.seq (.seq (.region [7, 20] (some []) none
     [⟨some 19, .mv (.t 7), [], [], none, none⟩,
      ⟨some 20, .bin .gtr (.t 19) (.c (.d (.int .i64 12))), [], [], none, none⟩])
  (.cond (.t 20) (.seq (.region [4, 5] (some []) none
       [⟨some 4, .mv (.c (.d (.int .i64 0))), [], [], none, none⟩,
        ⟨some 5, .mv (.c (.d (.int .i64 0))), [], [], none, none⟩])
    (.ret))
   (.skip)))
 (R_c0)) (St.mk s o) Q =
 (demand (binV BinOp.gtr (s 7) (V.d (.int .i64 12))) (fun x1 =>
condK x1
 (Q .ret (St.mk (look [(4, (V.d (.int .i64 0))), (5, (V.d (.int .i64 0)))]) (looko ([].map fun n => (n, o n)))))
 (wpB C I R_c0 (St.mk (look [(7, (s 7)), (20, x1)]) (looko ([].map fun n => (n, o n)))) Q))) := rfl
theorem g_lex_one_c2_sh {C : Ctx} {I : Nat → Prop} {s : Nat → V} {o : Nat → Option Ob} {Q : Ex → St → Prop} : wpB C I (.seq (.region [4, 5] (some []) none
    [⟨some 28, .mv (.t 0), [], [], none, none⟩,
     ⟨some 29, .mv (.t 1), [], [], none, none⟩,
     ⟨some 30, .mv (.t 1), [], [], none, none⟩,
     ⟨some 31, .mv (.t 8), [], [], none, none⟩,
     ⟨some 32, .bin .add (.t 30) (.t 31), [], [], none, none⟩,
     ⟨some 33, .slcS (.t 28) (some (.t 29)) (some (.t 32)), [], [], none, none⟩,
     ⟨some 34, .call 109 [(.t 33)], [], [], none, none⟩,
     ⟨some 35, .mv (.t 8), [], [], none, none⟩,
     ⟨some 4, .mv (.t 34), [], [], none, none⟩,
     ⟨some 5, .mv (.t 35), [], [], none, none⟩])
 (.ret)) (St.mk s o) Q =
 (demand (binV BinOp.add (s 1) (s 8)) (fun x1 =>
demand (slcSV (s 0) (some (s 1)) (some x1)) (fun x2 =>
callK C I (St.mk (upd (upd (upd (upd (upd (upd s 28 (s 0)) 29 (s 1)) 30 (s 1)) 31 (s 8)) 32 x1) 33 x2) o) (some 34) 109 [x2] (fun r3 or3 =>
Q .ret (St.mk (look [(4, r3), (5, (s 8))]) (looko ([].map fun n => (n, or3 n)))))))) := rfl
theorem g_lex_one_c3_sh {R_c1 : ACode} {R_c2 : ACode} {C : Ctx} {I : Nat → Prop} {s : Nat → V} {o : Nat → Option Ob} {Q : Ex → St → Prop} : wpB C I (.block 0 [0, 1] (some []) (.seq (.region [0, 1, 6, 13] (some []) none
     [⟨some 14, .mv (.t 6), [], [], none, none⟩,
      ⟨some 15, .call 105 [(.t 14)], [], [], none, none⟩,
      ⟨some 13, .mv (.t 15), [], [], none, none⟩])
  (.cond (.t 13) (.seq (.region [7] (some []) none
       [⟨some 16, .mv (.t 0), [], [], none, none⟩,
        ⟨some 17, .mv (.t 1), [], [], none, none⟩,
        ⟨some 18, .call 102 [(.t 16), (.t 17), (.f 106)], [], [], none, none⟩,
        ⟨some 7, .mv (.t 18), [], [], none, none⟩])
    (R_c1))
   (.seq (.region [0, 1, 22] (some []) none
       [⟨some 23, .mv (.t 6), [], [], none, none⟩,
        ⟨some 24, .call 107 [(.t 23)], [], [], none, none⟩,
        ⟨some 22, .mv (.t 24), [], [], none, none⟩])
    (.cond (.t 22) (.seq (.region [0, 1, 8] (some []) none
         [⟨some 25, .mv (.t 0), [], [], none, none⟩,
          ⟨some 26, .mv (.t 1), [], [], none, none⟩,
          ⟨some 27, .call 102 [(.t 25), (.t 26), (.f 108)], [], [], none, none⟩,
          ⟨some 8, .mv (.t 27), [], [], none, none⟩])
      (R_c2))
     (.skip)))))) (St.mk s o) Q =
 (callK C I (St.mk (upd s 14 (s 6)) o) (some 15) 105 [(s 6)] (fun r1 or1 =>
condK r1
 (callK C I (St.mk (upd (upd (look [(0, (s 0)), (1, (s 1)), (6, (s 6)), (13, r1)]) 16 (s 0)) 17 (s 1)) (looko ([].map fun n => (n, or1 n)))) (some 18) 102 [(s 0), (s 1), (V.fn 106 [])] (fun r2 or2 =>
wpB C I R_c1 (St.mk (look [(7, r2)]) (looko ([].map fun n => (n, or2 n)))) (blockK 0 [0, 1] (some []) Q)))
 (callK C I (St.mk (upd (look [(0, (s 0)), (1, (s 1)), (6, (s 6)), (13, r1)]) 23 (s 6)) (looko ([].map fun n => (n, or1 n)))) (some 24) 107 [(s 6)] (fun r3 or3 =>
condK r3
 (callK C I (St.mk (upd (upd (look [(0, (s 0)), (1, (s 1)), (22, r3)]) 25 (s 0)) 26 (s 1)) (looko ([].map fun n => (n, or3 n)))) (some 27) 102 [(s 0), (s 1), (V.fn 108 [])] (fun r4 or4 =>
wpB C I R_c2 (St.mk (look [(0, (s 0)), (1, (s 1)), (8, r4)]) (looko ([].map fun n => (n, or4 n)))) (blockK 0 [0, 1] (some []) Q)))
 (Q .normal (St.mk (look [(0, (s 0)), (1, (s 1))]) (looko ([].map fun n => (n, or3 n))))))))) := rfl
theorem g_lex_one_c4_sh {C : Ctx} {I : Nat → Prop} {s : Nat → V} {o : Nat → Option Ob} {Q : Ex → St → Prop} : wpB C I (.seq (.region [4, 5] (some []) none
    [⟨some 42, .mv (.t 9), [], [], none, none⟩,
     ⟨some 4, .mv (.c (.d (.int .i64 5))), [], [], none, none⟩,
     ⟨some 5, .mv (.t 42), [], [], none, none⟩])
 (.ret)) (St.mk s o) Q =
 (Q .ret (St.mk (look [(4, (V.d (.int .i64 5))), (5, (s 9))]) (looko ([].map fun n => (n, o n))))) := rfl
theorem g_lex_one_c5_sh {R_c4 : ACode} {C : Ctx} {I : Nat → Prop} {s : Nat → V} {o : Nat → Option Ob} {Q : Ex → St → Prop} : wpB C I (.seq (.seq (.region [9, 41] (some []) none
     [⟨some 40, .mv (.t 9), [], [], none, none⟩,
      ⟨some 41, .bin .eql (.t 40) (.c (.d (.int .i64 0))), [], [], none, none⟩])
  (.cond (.t 41) (.seq (.region [4, 5] (some []) none
       [⟨some 4, .mv (.c (.d (.int .i64 0))), [], [], none, none⟩,
        ⟨some 5, .mv (.c (.d (.int .i64 0))), [], [], none, none⟩])
    (.ret))
   (.skip)))
 (R_c4)) (St.mk s o) Q =
 (demand (binV BinOp.eql (s 9) (V.d (.int .i64 0))) (fun x1 =>
condK x1
 (Q .ret (St.mk (look [(4, (V.d (.int .i64 0))), (5, (V.d (.int .i64 0)))]) (looko ([].map fun n => (n, o n)))))
 (wpB C I R_c4 (St.mk (look [(9, (s 9)), (41, x1)]) (looko ([].map fun n => (n, o n)))) Q))) := rfl
theorem g_lex_one_c6_sh {R_c5 : ACode} {C : Ctx} {I : Nat → Prop} {s : Nat → V} {o : Nat → Option Ob} {Q : Ex → St → Prop} : wpB C I (.seq (.region [9] (some []) none
    [⟨some 36, .mv (.t 0), [], [], none, none⟩,
     ⟨some 37, .mv (.t 1), [], [], none, none⟩,
     ⟨some 38, .slcS (.t 36) (some (.t 37)) none, [], [], none, none⟩,
     ⟨some 39, .call 110 [(.t 38)], [], [], none, none⟩,
     ⟨some 9, .mv (.t 39), [], [], none, none⟩])
 (R_c5)) (St.mk s o) Q =
 (demand (slcSV (s 0) (some (s 1)) none) (fun x1 =>
callK C I (St.mk (upd (upd (upd s 36 (s 0)) 37 (s 1)) 38 x1) o) (some 39) 110 [x1] (fun r2 or2 =>
wpB C I R_c5 (St.mk (look [(9, r2)]) (looko ([].map fun n => (n, or2 n)))) Q))) := rfl
theorem g_lex_one_code_sh {R_c3 : ACode} {R_c6 : ACode} {C : Ctx} {I : Nat → Prop} {s : Nat → V} {o : Nat → Option Ob} {Q : Ex → St → Prop} : wpB C I (.seq (.region [0, 1] (some []) none
    [⟨some 4, .mv (.c (.d (.int .i64 0))), [], [], none, none⟩,
     ⟨some 5, .mv (.c (.d (.int .i64 0))), [], [], none, none⟩])
 (.seq (.seq (.region [0, 1, 6] (some []) none
      [⟨some 10, .mv (.t 0), [], [], none, none⟩,
       ⟨some 11, .mv (.t 1), [], [], none, none⟩,
       ⟨some 12, .idx (.t 10) (.t 11), [], [], none, none⟩,
       ⟨some 6, .mv (.t 12), [], [], none, none⟩])
   (R_c3))
  (R_c6))) (St.mk s o) Q =
 (demand (idxV (s 0) (s 1)) (fun x1 =>
wpB C I R_c3 (St.mk (look [(0, (s 0)), (1, (s 1)), (6, x1)]) (looko ([].map fun n => (n, o n)))) (seqK (fun st => wpB C I R_c6 st Q) Q))) := rfl
theorem g_ref07_in_c0_sh {C : Ctx} {I : Nat → Prop} {s : Nat → V} {o : Nat → Option Ob} {Q : Ex → St → Prop} : wpB C I (.region [0, 1, 5] (some []) none
   [⟨some 10, .mv (.t 5), [], [], none, none⟩,
    ⟨some 11, .bin .add (.t 10) (.c (.d (.int .i64 1))), [], [], none, none⟩,
    ⟨some 5, .mv (.t 11), [], [], none, none⟩]) (St.mk s o) Q =
 (demand (binV BinOp.add (s 5) (V.d (.int .i64 1))) (fun x1 =>
Q .normal (St.mk (look [(0, (s 0)), (1, (s 1)), (5, x1)]) (looko ([].map fun n => (n, o n)))))) := rfl
theorem g_ref07_in_c1_sh {R_c0 : ACode} {C : Ctx} {I : Nat → Prop} {s : Nat → V} {o : Nat → Option Ob} {Q : Ex → St → Prop} : wpB C I (.seq (.block 1 [0, 1, 5] (some []) (.seq (.region [0, 1, 5, 16] (some []) none
      [⟨some 12, .mv (.t 1), [], [], none, none⟩,
       ⟨some 13, .mv (.t 5), [], [], none, none⟩,
       ⟨some 14, .idx (.t 12) (.t 13), [], [], none, none⟩,
       ⟨some 15, .mv (.t 0), [], [], none, none⟩,
       ⟨some 16, .bin .eql (.t 14) (.t 15), [], [], none, none⟩])
   (.cond (.t 16) (.seq (.region [4] (some []) none
        [⟨some 4, .mv (.c (.d (.bool true))), [], [], none, none⟩])
     (.ret))
    (.skip))))
 (R_c0)) (St.mk s o) Q =
 (demand (idxV (s 1) (s 5)) (fun x1 =>
demand (binV BinOp.eql x1 (s 0)) (fun x2 =>
condK x2
 (Q .ret (St.mk (look [(4, (V.d (.bool true)))]) (looko ([].map fun n => (n, o n)))))
 (wpB C I R_c0 (St.mk (look [(0, (s 0)), (1, (s 1)), (5, (s 5))]) (looko ([].map fun n => (n, o n)))) Q)))) := rfl
theorem g_ref07_in_l0_sh {R_l0 : ACode} {R_c1 : ACode} {C : Ctx} {I : Nat → Prop} {s : Nat → V} {o : Nat → Option Ob} {Q : Ex → St → Prop} (hL : R_l0 = .loop [0, 1, 5] (some []) (.seq (.seq (.region [0, 1, 5, 9] (some []) none
      [⟨some 6, .mv (.t 5), [], [], none, none⟩,
       ⟨some 7, .mv (.t 1), [], [], none, none⟩,
       ⟨some 8, .lenS (.t 7), [], [], none, none⟩,
       ⟨some 9, .bin .lss (.t 6) (.t 8), [], [], none, none⟩])
   (.cond (.t 9) (.skip)
    (.exit 0)))
  (R_c1)))
 (h : demand (lenSV (s 1)) (fun x1 =>
demand (binV BinOp.lss (s 5) x1) (fun x2 =>
condK x2
 (wpB C I R_c1 (St.mk (look [(0, (s 0)), (1, (s 1)), (5, (s 5)), (9, x2)]) (looko ([].map fun n => (n, o n)))) (seqK (fun s => wpB C I R_l0 s Q) Q))
 (Q (.exit 0) (St.mk (look [(0, (s 0)), (1, (s 1)), (5, (s 5)), (9, x2)]) (looko ([].map fun n => (n, o n)))))))) : wpB C I R_l0 (St.mk s o) Q := w_loopC hL h
theorem g_ref07_in_c2_sh {C : Ctx} {I : Nat → Prop} {s : Nat → V} {o : Nat → Option Ob} {Q : Ex → St → Prop} : wpB C I (.seq (.region [4] (some []) none
    [⟨some 4, .mv (.c (.d (.bool false))), [], [], none, none⟩])
 (.ret)) (St.mk s o) Q =
 (Q .ret (St.mk (look [(4, (V.d (.bool false)))]) (looko ([].map fun n => (n, o n))))) := rfl
theorem g_ref07_in_code_sh {R_l0 : ACode} {R_c2 : ACode} {C : Ctx} {I : Nat → Prop} {s : Nat → V} {o : Nat → Option Ob} {Q : Ex → St → Prop} : wpB C I (.seq (.region [0, 1] (some []) none
    [⟨some 4, .mv (.c (.d (.bool false))), [], [], none, none⟩])
 (.seq (.seq (.region [0, 1, 5] (some []) none
      [⟨some 5, .mv (.c (.d (.int .i64 0))), [], [], none, none⟩])
   (.block 0 [] (some []) (R_l0)))
  (R_c2))) (St.mk s o) Q =
 (wpB C I R_l0 (St.mk (look [(0, (s 0)), (1, (s 1)), (5, (V.d (.int .i64 0)))]) (looko ([].map fun n => (n, o n)))) (blockK 0 [] (some []) (seqK (fun st => wpB C I R_c2 st Q) Q))) := rfl
theorem g_ref07_end_o1_sh {C : Ctx} {I : Nat → Prop} {s : Nat → V} {o : Nat → Option Ob} {K : St → Prop} : opsB C I [⟨some 17, .pick (.t 11) (.t 16) (.c (.d (.bool false))), [], [], none, none⟩] (St.mk s o) K =
 (demand (pickV (s 11) (s 16) (V.d (.bool false))) (fun x1 =>
K (St.mk (upd s 17 x1) o))) := rfl
theorem g_ref07_end_o0_sh {R_o1 : List AOper} {C : Ctx} {I : Nat → Prop} {s : Nat → V} {o : Nat → Option Ob} {K : St → Prop} : opsB C I (⟨some 12, .mv (.t 0), [], [], (some (4, 11, true)), none⟩ ::
     ⟨some 13, .mv (.t 1), [], [], (some (4, 11, true)), none⟩ ::
     ⟨some 14, .idx (.t 12) (.t 13), [], [], (some (4, 11, true)), none⟩ ::
     ⟨some 15, .mv (.t 2), [], [], (some (4, 11, true)), none⟩ ::
     ⟨some 16, .call 96 [(.t 14), (.t 15)], [], [], (some (4, 11, true)), (some ([0, 1, 2, 11, 16], (some [])))⟩ ::
     R_o1) (St.mk s o) K =
 (guardK (s 11) true
 (demand (idxV (s 0) (s 1)) (fun x1 =>
callK C I (St.mk (upd (upd (upd (upd (upd (upd (upd (upd (upd s 11 (V.d (D.bool true))) 12 (s 0)) 11 (V.d (D.bool true))) 13 (s 1)) 11 (V.d (D.bool true))) 14 x1) 11 (V.d (D.bool true))) 15 (s 2)) 11 (V.d (D.bool true))) o) (some 16) 96 [x1, (s 2)] (fun r2 or2 =>
opsB C I R_o1 (St.mk (look [(0, (s 0)), (1, (s 1)), (2, (s 2)), (11, (V.d (D.bool true))), (16, r2)]) (looko ([].map fun n => (n, or2 n)))) K)))
 (opsB C I R_o1 (St.mk (look [(0, (s 0)), (1, (s 1)), (2, (s 2)), (11, (V.d (D.bool false))), (16, (V.tup []))]) (looko ([].map fun n => (n, o n)))) K)
 (opsB C I R_o1 (St.mk (look [(0, (s 0)), (1, (s 1)), (2, (s 2)), (11, (V.tup [])), (16, (V.tup []))]) (looko ([].map fun n => (n, o n)))) K)) := rfl
theorem g_ref07_end_c0_sh {C : Ctx} {I : Nat → Prop} {s : Nat → V} {o : Nat → Option Ob} {Q : Ex → St → Prop} : wpB C I (.cond (.t 17) (.skip)
 (.exit 0)) (St.mk s o) Q =
 (condK (s 17)
 (Q .normal (St.mk s o))
 (Q (.exit 0) (St.mk s o))) := rfl
theorem g_ref07_end_c1_sh {C : Ctx} {I : Nat → Prop} {s : Nat → V} {o : Nat → Option Ob} {Q : Ex → St → Prop} : wpB C I (.block 1 [0, 1, 2] (some []) (.region [0, 1, 2] (some []) none
    [⟨some 18, .mv (.t 1), [], [], none, none⟩,
     ⟨some 19, .bin .add (.t 18) (.c (.d (.int .i64 1))), [], [], none, none⟩,
     ⟨some 1, .mv (.t 19), [], [], none, none⟩])) (St.mk s o) Q =
 (demand (binV BinOp.add (s 1) (V.d (.int .i64 1))) (fun x1 =>
Q .normal (St.mk (look [(0, (s 0)), (1, x1), (2, (s 2))]) (looko ([].map fun n => (n, o n)))))) := rfl
theorem g_ref07_end_l0_sh {R_l0 : ACode} {R_o0 : List AOper} {R_c0 : ACode} {R_c1 : ACode} {C : Ctx} {I : Nat → Prop} {s : Nat → V} {o : Nat → Option Ob} {Q : Ex → St → Prop} (hL : R_l0 = .loop [0, 1, 2] (some []) (.seq (.seq (.region [0, 1, 2, 17] (some []) none
      (⟨some 7, .mv (.t 1), [], [], none, none⟩ ::
       ⟨some 8, .mv (.t 0), [], [], none, none⟩ ::
       ⟨some 9, .lenS (.t 8), [], [], none, none⟩ ::
       ⟨some 10, .bin .lss (.t 7) (.t 9), [], [], none, none⟩ ::
       ⟨some 11, .mv (.t 10), [], [], none, (some ([0, 1, 2, 11], (some [])))⟩ ::
       R_o0))
   (R_c0))
  (R_c1)))
 (h : demand (lenSV (s 0)) (fun x1 =>
demand (binV BinOp.lss (s 1) x1) (fun x2 =>
opsB C I R_o0 (St.mk (look [(0, (s 0)), (1, (s 1)), (2, (s 2)), (11, x2)]) (looko ([].map fun n => (n, o n)))) (fun st => (seqK (fun st => wpB C I R_c0 st (seqK (fun st => wpB C I R_c1 st (seqK (fun s => wpB C I R_l0 s Q) Q)) (seqK (fun s => wpB C I R_l0 s Q) Q))) (seqK (fun st => wpB C I R_c1 st (seqK (fun s => wpB C I R_l0 s Q) Q)) (seqK (fun s => wpB C I R_l0 s Q) Q))) .normal (St.trim st [0, 1, 2, 17] (some [])))))) : wpB C I R_l0 (St.mk s o) Q := w_loopC hL h
theorem g_ref07_end_c2_sh {C : Ctx} {I : Nat → Prop} {s : Nat → V} {o : Nat → Option Ob} {Q : Ex → St → Prop} : wpB C I (.seq (.region [6] (some []) none
    [⟨some 20, .mv (.t 1), [], [], none, none⟩,
     ⟨some 6, .mv (.t 20), [], [], none, none⟩])
 (.ret)) (St.mk s o) Q =
 (Q .ret (St.mk (look [(6, (s 1))]) (looko ([].map fun n => (n, o n))))) := rfl
theorem g_ref07_end_code_sh {R_l0 : ACode} {R_c2 : ACode} {C : Ctx} {I : Nat → Prop} {s : Nat → V} {o : Nat → Option Ob} {Q : Ex → St → Prop} : wpB C I (.seq (.region [0, 1, 2] (some []) none
    [⟨some 6, .mv (.c (.d (.int .i64 0))), [], [], none, none⟩])
 (.seq (.block 0 [1] (some []) (R_l0))
  (R_c2))) (St.mk s o) Q =
 (wpB C I R_l0 (St.mk (look [(0, (s 0)), (1, (s 1)), (2, (s 2))]) (looko ([].map fun n => (n, o n)))) (blockK 0 [1] (some []) (seqK (fun st => wpB C I R_c2 st Q) Q))) := rfl
theorem g_ref07_kind_c0_sh {C : Ctx} {I : Nat → Prop} {s : Nat → V} {o : Nat → Option Ob} {Q : Ex → St → Prop} : wpB C I (.seq (.seq (.region [0, 6, 17] (some []) none
     [⟨some 17, .mv (.t 4), [], [], none, none⟩])
  (.cond (.t 17) (.seq (.region [2] (some []) none
       [⟨some 2, .mv (.c (.d (.int .i64 3))), [], [], none, none⟩])
    (.ret))
   (.skip)))
 (.seq (.seq (.region [0, 18] (some []) none
      [⟨some 18, .mv (.t 6), [], [], none, none⟩])
   (.cond (.t 18) (.seq (.region [2] (some []) none
        [⟨some 2, .mv (.c (.d (.int .i64 4))), [], [], none, none⟩])
     (.ret))
    (.skip)))
  (.seq (.seq (.region [20] (some []) none
       [⟨some 19, .mv (.t 0), [], [], none, none⟩,
        ⟨some 20, .call 111 [(.t 19)], [], [], none, none⟩])
    (.cond (.t 20) (.seq (.region [2] (some []) none
         [⟨some 2, .mv (.c (.d (.int .i64 2))), [], [], none, none⟩])
      (.ret))
     (.skip)))
   (.seq (.region [2] (some []) none
       [⟨some 2, .mv (.c (.d (.int .i64 0))), [], [], none, none⟩])
    (.ret))))) (St.mk s o) Q =
 (condK (s 4)
 (Q .ret (St.mk (look [(2, (V.d (.int .i64 3)))]) (looko ([].map fun n => (n, o n)))))
 (condK (s 6)
 (Q .ret (St.mk (look [(2, (V.d (.int .i64 4)))]) (looko ([].map fun n => (n, o n)))))
 (callK C I (St.mk (upd (look [(0, (s 0)), (18, (s 6))]) 19 (s 0)) (looko ([].map fun n => (n, o n)))) (some 20) 111 [(s 0)] (fun r1 or1 =>
condK r1
 (Q .ret (St.mk (look [(2, (V.d (.int .i64 2)))]) (looko ([].map fun n => (n, or1 n)))))
 (Q .ret (St.mk (look [(2, (V.d (.int .i64 0)))]) (looko ([].map fun n => (n, or1 n))))))))) := rfl
theorem g_ref07_kind_c1_sh {R_c0 : ACode} {C : Ctx} {I : Nat → Prop} {s : Nat → V} {o : Nat → Option Ob} {Q : Ex → St → Prop} : wpB C I (.seq (.region [0, 4, 6] (some []) none
    [⟨some 13, .mv (.t 0), [], [], none, none⟩,
     ⟨some 14, .call 93 [(.t 13)], [], [], none, none⟩,
     ⟨some 12, .mv (.t 14), [], [], none, none⟩,
     ⟨some 15, .ext (.t 12) 0, [], [], none, none⟩,
     ⟨some 16, .ext (.t 12) 1, [], [], none, none⟩,
     ⟨some 5, .mv (.t 15), [], [], none, none⟩,
     ⟨some 6, .mv (.t 16), [], [], none, none⟩])
 (R_c0)) (St.mk s o) Q =
 (callK C I (St.mk (upd s 13 (s 0)) o) (some 14) 93 [(s 0)] (fun r1 or1 =>
demand (extV r1 0) (fun x2 =>
demand (extV r1 1) (fun x3 =>
wpB C I R_c0 (St.mk (look [(0, (s 0)), (4, (s 4)), (6, x3)]) (looko ([].map fun n => (n, or1 n)))) Q)))) := rfl
theorem g_ref07_kind_code_sh {R_c1 : ACode} {C : Ctx} {I : Nat → Prop} {s : Nat → V} {o : Nat → Option Ob} {Q : Ex → St → Prop} : wpB C I (.seq (.region [0] (some []) none
    [⟨some 2, .mv (.c (.d (.int .i64 0))), [], [], none, none⟩])
 (.seq (.region [0, 4] (some []) none
     [⟨some 8, .mv (.t 0), [], [], none, none⟩,
      ⟨some 9, .call 52 [(.t 8)], [], [], none, none⟩,
      ⟨some 7, .mv (.t 9), [], [], none, none⟩,
      ⟨some 10, .ext (.t 7) 0, [], [], none, none⟩,
      ⟨some 11, .ext (.t 7) 1, [], [], none, none⟩,
      ⟨some 3, .mv (.t 10), [], [], none, none⟩,
      ⟨some 4, .mv (.t 11), [], [], none, none⟩])
  (R_c1))) (St.mk s o) Q =
 (callK C I (St.mk (upd (look [(0, (s 0))]) 8 (s 0)) (looko ([].map fun n => (n, o n)))) (some 9) 52 [(s 0)] (fun r1 or1 =>
demand (extV r1 0) (fun x2 =>
demand (extV r1 1) (fun x3 =>
wpB C I R_c1 (St.mk (look [(0, (s 0)), (4, x3)]) (looko ([].map fun n => (n, or1 n)))) Q)))) := rfl
theorem g_money_Text_c0_sh {C : Ctx} {I : Nat → Prop} {s : Nat → V} {o : Nat → Option Ob} {Q : Ex → St → Prop} : wpB C I (.seq (.region [2, 3] (some []) (some ([0, 1, 2, 3, 4, 5, 6, 7, 8, 9, 10], .done))
    [⟨some 17, .mv (.t 4), [], [], none, none⟩,
     ⟨some 18, .mv (.t 0), [], [], none, none⟩,
     ⟨some 19, .bin .quo (.t 18) (.c (.d (.int .i64 100))), [], [1], none, none⟩,
     ⟨some 20, .call 68 [(.t 19)], [], [2], none, none⟩,
     ⟨some 21, .bin .add (.t 17) (.t 20), [], [0, 3], none, none⟩,
     ⟨some 22, .bin .add (.t 21) (.c (.d (.str [46]))), [], [4], none, none⟩,
     ⟨some 23, .mv (.t 5), [], [], none, none⟩,
     ⟨some 24, .slcS (.t 23) (some (.c (.d (.int .i64 1)))) none, [], [6], none, none⟩,
     ⟨some 25, .bin .add (.t 22) (.t 24), [], [5, 7], none, none⟩,
     ⟨some 2, .mv (.t 25), [], [8, 3, 0, 1, 2, 3, 4, 5, 6, 7, 8], none, none⟩,
     ⟨some 3, .mv (.c (.d (.int .i64 0))), [], [9, 0, 1, 2, 3, 4, 5, 6, 7, 8, 9], none, none⟩])
 (.ret)) (St.mk s o) Q =
 ((s 17) = V.undef ∧ (quietV o ((s 4) :: [(s 4)]) ∧
(s 18) = V.undef ∧ (quietV o ((s 0) :: [(s 0)]) ∧
(s 19) = V.undef ∧ (demand (binV BinOp.quo (s 0) (V.d (.int .i64 100))) (fun x3 => quietV o (x3 :: [(s 0), (V.d (.int .i64 100))]) ∧
(s 20) = V.undef ∧ (∃ x4, SoundAt C 68 ⟨[x3], fun _ => none⟩ ⟨x4, fun _ => none⟩ ∧ (∀ n, V.refs n x4 = false) ∧ quietV o (x4 :: [x3]) ∧
(s 21) = V.undef ∧ (demand (binV BinOp.add (s 4) x4) (fun x5 => quietV o (x5 :: [(s 4), x4]) ∧
(s 22) = V.undef ∧ (demand (binV BinOp.add x5 (V.d (.str [46]))) (fun x6 => quietV o (x6 :: [x5, (V.d (.str [46]))]) ∧
(s 23) = V.undef ∧ (quietV o ((s 5) :: [(s 5)]) ∧
(s 24) = V.undef ∧ (demand (slcSV (s 5) (some (V.d (.int .i64 1))) none) (fun x8 => quietV o (x8 :: [(s 5), (V.d (.int .i64 1))]) ∧
(s 25) = V.undef ∧ (demand (binV BinOp.add x6 x8) (fun x9 => quietV o (x9 :: [x6, x8]) ∧
(s 2) = V.undef ∧ (quietV o (x9 :: [x9]) ∧
(s 3) = V.undef ∧ (quietV o ((V.d (.int .i64 0)) :: [(V.d (.int .i64 0))]) ∧
Q .ret (St.mk (look [(2, x9), (3, (V.d (.int .i64 0)))]) (looko ([].map fun n => (n, o n))))))))))))))))))))) := rfl
theorem g_money_Text_c1_sh {R_c0 : ACode} {C : Ctx} {I : Nat → Prop} {s : Nat → V} {o : Nat → Option Ob} {Q : Ex → St → Prop} : wpB C I (.seq (.region [0, 4, 5] (some []) none
    [⟨some 13, .mv (.t 0), [], [], none, none⟩,
     ⟨some 14, .bin .rem (.t 13) (.c (.d (.int .i64 100))), [], [], none, none⟩,
     ⟨some 15, .bin .add (.c (.d (.int .i64 100))) (.t 14), [], [], none, none⟩,
     ⟨some 16, .call 68 [(.t 15)], [], [], none, none⟩,
     ⟨some 5, .mv (.t 16), [], [], none, none⟩])
 (R_c0)) (St.mk s o) Q =
 (demand (binV BinOp.rem (s 0) (V.d (.int .i64 100))) (fun x1 =>
demand (binV BinOp.add (V.d (.int .i64 100)) x1) (fun x2 =>
callK C I (St.mk (upd (upd (upd s 13 (s 0)) 14 x1) 15 x2) o) (some 16) 68 [x2] (fun r3 or3 =>
wpB C I R_c0 (St.mk (look [(0, (s 0)), (4, (s 4)), (5, r3)]) (looko ([].map fun n => (n, or3 n)))) Q)))) := rfl
theorem g_money_Text_c2_sh {R_c1 : ACode} {C : Ctx} {I : Nat → Prop} {s : Nat → V} {o : Nat → Option Ob} {Q : Ex → St → Prop} : wpB C I (.seq (.region [0, 4] (some []) none
    [⟨some 4, .mv (.c (.d (.str []))), [], [], none, none⟩])
 (.seq (.seq (.region [0, 4, 10] (some []) none
      [⟨some 9, .mv (.t 0), [], [], none, none⟩,
       ⟨some 10, .bin .lss (.t 9) (.c (.d (.int .i64 0))), [], [], none, none⟩])
   (.cond (.t 10) (.region [0, 4] (some []) none
       [⟨some 11, .mv (.t 0), [], [], none, none⟩,
        ⟨some 12, .un .neg (.t 11), [], [], none, none⟩,
        ⟨some 4, .mv (.c (.d (.str [45]))), [], [], none, none⟩,
        ⟨some 0, .mv (.t 12), [], [], none, none⟩])
    (.skip)))
  (R_c1))) (St.mk s o) Q =
 (demand (binV BinOp.lss (s 0) (V.d (.int .i64 0))) (fun x1 =>
condK x1
 (demand (unV UnOp.neg (s 0)) (fun x2 =>
wpB C I R_c1 (St.mk (look [(0, x2), (4, (V.d (.str [45])))]) (looko ([].map fun n => (n, o n)))) Q))
 (wpB C I R_c1 (St.mk (look [(0, (s 0)), (4, (V.d (.str []))), (10, x1)]) (looko ([].map fun n => (n, o n)))) Q))) := rfl

end Pay
