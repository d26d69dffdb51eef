/- What the code of one function comes to, without slots: an equation for each part; no condition. -/
import Derived.Test.YtbhjjheefdilbaaPayU
import Derived.Test.YtbhjjheefdilbaaPayBkCode
set_option maxRecDepth 20000
set_option maxHeartbeats 400000
set_option linter.unusedVariables false
namespace Pay
open Go
theorem g_book_alive_c0_sh {C : Ctx} {I : Nat → Prop} {s : Nat → V} {o : Nat → Option Ob} {Q : Ex → St → Prop} : wpB C I (.region [1, 2, 5, 13, 14, 15] (some [2, 11]) none
   [⟨some 19, .mv (.t 5), [], [], none, none⟩,
    ⟨some 20, .faddr 4 (.t 7), [], [], none, none⟩,
    ⟨some 21, .load none (.t 20), [], [], none, none⟩,
    ⟨some 22, .mget false ((.int .i64 0)) (.t 19) (.t 21) false, [], [], none, none⟩,
    ⟨some 23, .bin .add (.t 22) (.c (.d (.int .i64 1))), [], [], none, none⟩,
    ⟨none, .mset false (.t 19) (.t 21) (.t 23), [], [], none, none⟩]) (St.mk s o) Q =
 (demand (faddrV 4 (s 7)) (fun x1 =>
demand (loadV o none x1) (fun x2 =>
mapK (s 5) (toD x2) o (fun n3 k4 kv5 => keyIs false k4 = true ∧ optK (kvGet k4 kv5) (fun r6 =>
demand (binV BinOp.add (if false = true then V.tup [V.d (r6.getD ((.int .i64 0))), V.d (D.bool r6.isSome)] else V.d (r6.getD ((.int .i64 0)))) (V.d (.int .i64 1))) (fun x7 =>
mapK (s 5) (toD x2) o (fun n8 k9 kv10 => keyIs false k9 = true ∧ optK (toD x7) (fun x11 => lstK (kvSet k9 x11 kv10) (fun kv12 =>
Q .normal (St.mk (look [(1, (s 1)), (2, (s 2)), (5, (s 5)), (13, (s 13)), (14, (s 14)), (15, (s 15))]) (looko ([2, 11].map fun n => (n, (upd o n8 (some (Ob.map kv12))) n))))))))))))) := rfl

theorem g_book_alive_c1_sh {C : Ctx} {I : Nat → Prop} {s : Nat → V} {o : Nat → Option Ob} {Q : Ex → St → Prop} : wpB C I (.region [1, 2, 5, 13, 14, 15] (some [2, 11]) none
   [⟨some 24, .bin .add (.t 15) (.c (.d (.int .i64 1))), [], [], none, none⟩,
    ⟨some 15, .mv (.t 24), [], [], none, none⟩]) (St.mk s o) Q =
 (demand (binV BinOp.add (s 15) (V.d (.int .i64 1))) (fun x1 =>
Q .normal (St.mk (look [(1, (s 1)), (2, (s 2)), (5, (s 5)), (13, (s 13)), (14, (s 14)), (15, x1)]) (looko ([2, 11].map fun n => (n, o n)))))) := rfl

theorem g_book_alive_l0_sh {R_l0 : ACode} {R_c0 : ACode} {R_c1 : ACode} {C : Ctx} {I : Nat → Prop} {s : Nat → V} {o : Nat → Option Ob} {Q : Ex → St → Prop} (hL : R_l0 = .loop [1, 2, 5, 13, 14, 15] (some [2, 11]) (.seq (.region [1, 2, 5, 13, 14, 15, 16] (some [2, 11]) none
     [⟨some 16, .bin .lss (.t 15) (.t 14), [], [], none, none⟩])
  (.seq (.cond (.t 16) (.skip)
    (.exit 0))
   (.seq (.block 1 [1, 2, 5, 13, 14, 15] (some [2, 11]) (.seq (.region [1, 2, 5, 7, 13, 14, 15] (some [2, 7, 11]) none
         [⟨some 17, .iaddr 22 (.t 13) (.t 15), [], [], none, none⟩,
          ⟨some 18, .load (some 22) (.t 17), [], [], none, none⟩,
          ⟨some 7, .alloc 7 [.d (.int .i64 0), .d (.int .i64 0), .d (.int .i64 0), .d (.int .i64 0), .d (.int .i64 0), .cap0, .d (.int .i64 0), .d (.int .i64 0), .d (.int .i64 0), .d (.int .i64 0), .d (.int .i64 0), .d (.int .i64 0), .d (.int .i64 0), .d (.int .i64 0), .d (.int .i64 0), .d (.int .i64 0), .d (.int .i64 0), .d (.int .i64 0), .cap0, .cap0, .cap0, .cap0], [], [], none, none⟩,
          ⟨none, .store 22 (.t 7) (.t 18), [], [], none, none⟩])
      (R_c0)))
    (R_c1)))))
 (h : demand (binV BinOp.lss (s 15) (s 14)) (fun x1 =>
condK x1
 (demand (iaddrV (looko ([2, 11].map fun n => (n, o n))) 22 (s 13) (s 15)) (fun x2 =>
demand (loadV (looko ([2, 11].map fun n => (n, o n))) (some 22) x2) (fun x3 =>
(¬ I 7 ∧ Fresh (St.mk (upd (upd (look [(1, (s 1)), (2, (s 2)), (5, (s 5)), (13, (s 13)), (14, (s 14)), (15, (s 15)), (16, x1)]) 17 x2) 18 x3) (looko ([2, 11].map fun n => (n, o n)))) 7 (some 7) ∧ V.refsL 7 [V.d (.int .i64 0), V.d (.int .i64 0), V.d (.int .i64 0), V.d (.int .i64 0), V.d (.int .i64 0), V.cap0, V.d (.int .i64 0), V.d (.int .i64 0), V.d (.int .i64 0), V.d (.int .i64 0), V.d (.int .i64 0), V.d (.int .i64 0), V.d (.int .i64 0), V.d (.int .i64 0), V.d (.int .i64 0), V.d (.int .i64 0), V.d (.int .i64 0), V.d (.int .i64 0), V.cap0, V.cap0, V.cap0, V.cap0] = false ∧
storeK (V.ptr 7 0) (cellsV x3) 22 (upd (looko ([2, 11].map fun n => (n, o n))) 7 (some (Ob.box [V.d (.int .i64 0), V.d (.int .i64 0), V.d (.int .i64 0), V.d (.int .i64 0), V.d (.int .i64 0), V.cap0, V.d (.int .i64 0), V.d (.int .i64 0), V.d (.int .i64 0), V.d (.int .i64 0), V.d (.int .i64 0), V.d (.int .i64 0), V.d (.int .i64 0), V.d (.int .i64 0), V.d (.int .i64 0), V.d (.int .i64 0), V.d (.int .i64 0), V.d (.int .i64 0), V.cap0, V.cap0, V.cap0, V.cap0]))) (fun m4 ob5 =>
wpB C I R_c0 (St.mk (look [(1, (s 1)), (2, (s 2)), (5, (s 5)), (7, (V.ptr 7 0)), (13, (s 13)), (14, (s 14)), (15, (s 15))]) (looko ([2, 7, 11].map fun n => (n, (upd (upd (looko ([2, 11].map fun n => (n, o n))) 7 (some (Ob.box [V.d (.int .i64 0), V.d (.int .i64 0), V.d (.int .i64 0), V.d (.int .i64 0), V.d (.int .i64 0), V.cap0, V.d (.int .i64 0), V.d (.int .i64 0), V.d (.int .i64 0), V.d (.int .i64 0), V.d (.int .i64 0), V.d (.int .i64 0), V.d (.int .i64 0), V.d (.int .i64 0), V.d (.int .i64 0), V.d (.int .i64 0), V.d (.int .i64 0), V.d (.int .i64 0), V.cap0, V.cap0, V.cap0, V.cap0]))) m4 (some ob5)) n)))) (blockK 1 [1, 2, 5, 13, 14, 15] (some [2, 11]) (seqK (fun st => wpB C I R_c1 st (seqK (fun s => wpB C I R_l0 s Q) Q)) (seqK (fun s => wpB C I R_l0 s Q) Q))))))))
 (Q (.exit 0) (St.mk (look [(1, (s 1)), (2, (s 2)), (5, (s 5)), (13, (s 13)), (14, (s 14)), (15, (s 15)), (16, x1)]) (looko ([2, 11].map fun n => (n, o n))))))) : wpB C I R_l0 (St.mk s o) Q := w_loopC hL h

theorem g_book_alive_c2_sh {R_l0 : ACode} {C : Ctx} {I : Nat → Prop} {s : Nat → V} {o : Nat → Option Ob} {Q : Ex → St → Prop} : wpB C I (.block 0 [1, 2, 5] (some [2, 11]) (R_l0)) (St.mk s o) Q =
 (wpB C I R_l0 (St.mk s o) (blockK 0 [1, 2, 5] (some [2, 11]) Q)) := rfl

theorem g_book_alive_o3_sh {C : Ctx} {I : Nat → Prop} {s : Nat → V} {o : Nat → Option Ob} {K : St → Prop} : opsB C I [⟨some 48, .pick (.t 42) (.t 47) (.c (.d (.bool false))), [], [], none, none⟩] (St.mk s o) K =
 (demand (pickV (s 42) (s 47) (V.d (.bool false))) (fun x1 =>
K (St.mk (upd s 48 x1) o))) := rfl

theorem g_book_alive_o2_sh {R_o3 : List AOper} {C : Ctx} {I : Nat → Prop} {s : Nat → V} {o : Nat → Option Ob} {K : St → Prop} : opsB C I (⟨some 43, .mv (.t 5), [], [], (some (9, 42, true)), none⟩ ::
     ⟨some 44, .mv (.t 9), [], [], (some (9, 42, true)), none⟩ ::
     ⟨some 45, .bin .add (.t 44) (.c (.d (.int .i64 1))), [], [], (some (9, 42, true)), none⟩ ::
     ⟨some 46, .mget false ((.int .i64 0)) (.t 43) (.t 45) false, [], [], (some (9, 42, true)), none⟩ ::
     ⟨some 47, .bin .eql (.t 46) (.c (.d (.int .i64 0))), [], [], (some (9, 42, true)), (some ([1, 5, 8, 10, 26, 27, 28, 42, 47], (some [10, 11, 52])))⟩ ::
     R_o3) (St.mk s o) K =
 (guardK (s 42) true
 (demand (binV BinOp.add (s 9) (V.d (.int .i64 1))) (fun x1 =>
mapK (s 5) (toD x1) o (fun n2 k3 kv4 => keyIs false k3 = true ∧ optK (kvGet k3 kv4) (fun r5 =>
demand (binV BinOp.eql (if false = true then V.tup [V.d (r5.getD ((.int .i64 0))), V.d (D.bool r5.isSome)] else V.d (r5.getD ((.int .i64 0)))) (V.d (.int .i64 0))) (fun x6 =>
opsB C I R_o3 (St.mk (look [(1, (s 1)), (5, (s 5)), (8, (s 8)), (10, (s 10)), (26, (s 26)), (27, (s 27)), (28, (s 28)), (42, (V.d (D.bool true))), (47, x6)]) (looko ([10, 11, 52].map fun n => (n, o n)))) K)))))
 (opsB C I R_o3 (St.mk (look [(1, (s 1)), (5, (s 5)), (8, (s 8)), (10, (s 10)), (26, (s 26)), (27, (s 27)), (28, (s 28)), (42, (V.d (D.bool false))), (47, (V.tup []))]) (looko ([10, 11, 52].map fun n => (n, o n)))) K)
 (opsB C I R_o3 (St.mk (look [(1, (s 1)), (5, (s 5)), (8, (s 8)), (10, (s 10)), (26, (s 26)), (27, (s 27)), (28, (s 28)), (42, (V.tup [])), (47, (V.tup []))]) (looko ([10, 11, 52].map fun n => (n, o n)))) K)) := rfl

theorem g_book_alive_o1_sh {R_o2 : List AOper} {C : Ctx} {I : Nat → Prop} {s : Nat → V} {o : Nat → Option Ob} {K : St → Prop} : opsB C I (⟨some 41, .pick (.t 37) (.t 40) (.c (.d (.bool false))), [], [], none, none⟩ ::
     ⟨some 42, .mv (.t 41), [], [], none, (some ([1, 5, 8, 9, 10, 26, 27, 28, 42], (some [10, 11, 52])))⟩ ::
     R_o2) (St.mk s o) K =
 (demand (pickV (s 37) (s 40) (V.d (.bool false))) (fun x1 =>
opsB C I R_o2 (St.mk (look [(1, (s 1)), (5, (s 5)), (8, (s 8)), (9, (s 9)), (10, (s 10)), (26, (s 26)), (27, (s 27)), (28, (s 28)), (42, x1)]) (looko ([10, 11, 52].map fun n => (n, o n)))) K)) := rfl

theorem g_book_alive_o0_sh {R_o1 : List AOper} {C : Ctx} {I : Nat → Prop} {s : Nat → V} {o : Nat → Option Ob} {K : St → Prop} : opsB C I (⟨some 38, .faddr 4 (.t 10), [], [], (some (4, 37, true)), none⟩ ::
     ⟨some 39, .load none (.t 38), [], [], (some (4, 37, true)), none⟩ ::
     ⟨some 40, .bin .eql (.t 39) (.c (.d (.int .i64 0))), [], [], (some (4, 37, true)), (some ([1, 5, 8, 9, 10, 26, 27, 28, 37, 40], (some [10, 11, 52])))⟩ ::
     R_o1) (St.mk s o) K =
 (guardK (s 37) true
 (demand (faddrV 4 (s 10)) (fun x1 =>
demand (loadV o none x1) (fun x2 =>
demand (binV BinOp.eql x2 (V.d (.int .i64 0))) (fun x3 =>
opsB C I R_o1 (St.mk (look [(1, (s 1)), (5, (s 5)), (8, (s 8)), (9, (s 9)), (10, (s 10)), (26, (s 26)), (27, (s 27)), (28, (s 28)), (37, (V.d (D.bool true))), (40, x3)]) (looko ([10, 11, 52].map fun n => (n, o n)))) K))))
 (opsB C I R_o1 (St.mk (look [(1, (s 1)), (5, (s 5)), (8, (s 8)), (9, (s 9)), (10, (s 10)), (26, (s 26)), (27, (s 27)), (28, (s 28)), (37, (V.d (D.bool false))), (40, (V.tup []))]) (looko ([10, 11, 52].map fun n => (n, o n)))) K)
 (opsB C I R_o1 (St.mk (look [(1, (s 1)), (5, (s 5)), (8, (s 8)), (9, (s 9)), (10, (s 10)), (26, (s 26)), (27, (s 27)), (28, (s 28)), (37, (V.tup [])), (40, (V.tup []))]) (looko ([10, 11, 52].map fun n => (n, o n)))) K)) := rfl

theorem g_book_alive_c3_sh {C : Ctx} {I : Nat → Prop} {s : Nat → V} {o : Nat → Option Ob} {Q : Ex → St → Prop} : wpB C I (.cond (.t 48) (.region [1, 5, 8, 26, 27, 28] (some [11, 52]) none
    [⟨some 49, .mv (.t 8), [], [], none, none⟩,
     ⟨some 50, .load (some 22) (.t 10), [], [], none, none⟩,
     ⟨some 51, .bsl none 22 [] 1 [(0, (.t 50))], [], [], none, none⟩,
     ⟨some 52, .app (some 52) 22 256 (.t 49) (.t 51), [], [], none, none⟩,
     ⟨some 8, .mv (.t 52), [], [], none, none⟩])
 (.skip)) (St.mk s o) Q =
 (condK (s 48)
 (demand (loadV o (some 22) (s 10)) (fun x1 =>
lstK (partsN 22 [x1]) (fun es2 =>
lstK (readD o (V.d (D.sl es2))) (fun ys3 => (∀ e ∈ ys3, e.length = 22) ∧ appK (s 8)
 (ys3.length * 256 ≤ 140737488355328 ∧ ys3.length ≤ 140737488355328 ∧ ¬ I 52 ∧ Fresh (St.mk (upd (upd (upd s 49 (s 8)) 50 x1) 51 (V.d (D.sl es2))) o) 52 (some 52) ∧
Q .normal (St.mk (look [(1, (s 1)), (5, (s 5)), (8, (V.own 52)), (26, (s 26)), (27, (s 27)), (28, (s 28))]) (looko ([11, 52].map fun n => (n, (upd o 52 (some (Ob.row 22 ys3))) n)))))
 (fun m4 => ¬ I m4 ∧ rowK (o m4) (fun z5 es6 => z5 = 22 ∧ (es6.length + ys3.length) * 256 ≤ 140737488355328 ∧ es6.length + ys3.length ≤ 140737488355328 ∧
Q .normal (St.mk (look [(1, ((fun t => scrubV m4 (s t)) 1)), (5, ((fun t => scrubV m4 (s t)) 5)), (8, (V.own m4)), (26, ((fun t => scrubV m4 (s t)) 26)), (27, ((fun t => scrubV m4 (s t)) 27)), (28, ((fun t => scrubV m4 (s t)) 28))]) (looko ([11, 52].map fun n => (n, (upd (fun n => (o n).map (Ob.scrub m4)) m4 (some (Ob.row 22 (es6 ++ ys3)))) n))))))))))
 (Q .normal (St.mk s o))) := rfl

theorem g_book_alive_c4_sh {R_o0 : List AOper} {R_c3 : ACode} {C : Ctx} {I : Nat → Prop} {s : Nat → V} {o : Nat → Option Ob} {Q : Ex → St → Prop} : wpB C I (.seq (.region [1, 5, 8, 10, 26, 27, 28, 48] (some [10, 11, 52]) none
    (⟨some 33, .faddr 2 (.t 10), [], [], none, none⟩ ::
     ⟨some 34, .load none (.t 33), [], [], none, none⟩ ::
     ⟨some 35, .mv (.t 1), [], [], none, none⟩ ::
     ⟨some 36, .bin .eql (.t 34) (.t 35), [], [], none, none⟩ ::
     ⟨some 37, .mv (.t 36), [], [], none, (some ([1, 5, 8, 9, 10, 26, 27, 28, 37], (some [10, 11, 52])))⟩ ::
     R_o0))
 (R_c3)) (St.mk s o) Q =
 (demand (faddrV 2 (s 10)) (fun x1 =>
demand (loadV o none x1) (fun x2 =>
demand (binV BinOp.eql x2 (s 1)) (fun x3 =>
opsB C I R_o0 (St.mk (look [(1, (s 1)), (5, (s 5)), (8, (s 8)), (9, (s 9)), (10, (s 10)), (26, (s 26)), (27, (s 27)), (28, (s 28)), (37, x3)]) (looko ([10, 11, 52].map fun n => (n, o n)))) (fun st => (seqK (fun st => wpB C I R_c3 st Q) Q) .normal (St.trim st [1, 5, 8, 10, 26, 27, 28, 48] (some [10, 11, 52]))))))) := rfl

theorem g_book_alive_c5_sh {C : Ctx} {I : Nat → Prop} {s : Nat → V} {o : Nat → Option Ob} {Q : Ex → St → Prop} : wpB C I (.region [1, 5, 8, 26, 27, 28] (some [11, 52]) none
   [⟨some 53, .bin .add (.t 28) (.c (.d (.int .i64 1))), [], [], none, none⟩,
    ⟨some 28, .mv (.t 53), [], [], none, none⟩]) (St.mk s o) Q =
 (demand (binV BinOp.add (s 28) (V.d (.int .i64 1))) (fun x1 =>
Q .normal (St.mk (look [(1, (s 1)), (5, (s 5)), (8, (s 8)), (26, (s 26)), (27, (s 27)), (28, x1)]) (looko ([11, 52].map fun n => (n, o n)))))) := rfl

theorem g_book_alive_l1_sh {R_l1 : ACode} {R_c4 : ACode} {R_c5 : ACode} {C : Ctx} {I : Nat → Prop} {s : Nat → V} {o : Nat → Option Ob} {Q : Ex → St → Prop} (hL : R_l1 = .loop [1, 5, 8, 26, 27, 28] (some [11, 52]) (.seq (.region [1, 5, 8, 26, 27, 28, 29] (some [11, 52]) none
     [⟨some 29, .bin .lss (.t 28) (.t 27), [], [], none, none⟩])
  (.seq (.cond (.t 29) (.skip)
    (.exit 2))
   (.seq (.block 3 [1, 5, 8, 26, 27, 28] (some [11, 52]) (.seq (.region [1, 5, 8, 9, 10, 26, 27, 28] (some [10, 11, 52]) none
         [⟨some 30, .mv (.t 28), [], [], none, none⟩,
          ⟨some 31, .iaddr 22 (.t 26) (.t 28), [], [], none, none⟩,
          ⟨some 32, .load (some 22) (.t 31), [], [], none, none⟩,
          ⟨some 10, .alloc 10 [.d (.int .i64 0), .d (.int .i64 0), .d (.int .i64 0), .d (.int .i64 0), .d (.int .i64 0), .cap0, .d (.int .i64 0), .d (.int .i64 0), .d (.int .i64 0), .d (.int .i64 0), .d (.int .i64 0), .d (.int .i64 0), .d (.int .i64 0), .d (.int .i64 0), .d (.int .i64 0), .d (.int .i64 0), .d (.int .i64 0), .d (.int .i64 0), .cap0, .cap0, .cap0, .cap0], [], [], none, none⟩,
          ⟨some 9, .mv (.t 30), [], [], none, none⟩,
          ⟨none, .store 22 (.t 10) (.t 32), [], [], none, none⟩])
      (R_c4)))
    (R_c5)))))
 (h : demand (binV BinOp.lss (s 28) (s 27)) (fun x1 =>
condK x1
 (demand (iaddrV (looko ([11, 52].map fun n => (n, o n))) 22 (s 26) (s 28)) (fun x2 =>
demand (loadV (looko ([11, 52].map fun n => (n, o n))) (some 22) x2) (fun x3 =>
(¬ I 10 ∧ Fresh (St.mk (upd (upd (upd (look [(1, (s 1)), (5, (s 5)), (8, (s 8)), (26, (s 26)), (27, (s 27)), (28, (s 28)), (29, x1)]) 30 (s 28)) 31 x2) 32 x3) (looko ([11, 52].map fun n => (n, o n)))) 10 (some 10) ∧ V.refsL 10 [V.d (.int .i64 0), V.d (.int .i64 0), V.d (.int .i64 0), V.d (.int .i64 0), V.d (.int .i64 0), V.cap0, V.d (.int .i64 0), V.d (.int .i64 0), V.d (.int .i64 0), V.d (.int .i64 0), V.d (.int .i64 0), V.d (.int .i64 0), V.d (.int .i64 0), V.d (.int .i64 0), V.d (.int .i64 0), V.d (.int .i64 0), V.d (.int .i64 0), V.d (.int .i64 0), V.cap0, V.cap0, V.cap0, V.cap0] = false ∧
storeK (V.ptr 10 0) (cellsV x3) 22 (upd (looko ([11, 52].map fun n => (n, o n))) 10 (some (Ob.box [V.d (.int .i64 0), V.d (.int .i64 0), V.d (.int .i64 0), V.d (.int .i64 0), V.d (.int .i64 0), V.cap0, V.d (.int .i64 0), V.d (.int .i64 0), V.d (.int .i64 0), V.d (.int .i64 0), V.d (.int .i64 0), V.d (.int .i64 0), V.d (.int .i64 0), V.d (.int .i64 0), V.d (.int .i64 0), V.d (.int .i64 0), V.d (.int .i64 0), V.d (.int .i64 0), V.cap0, V.cap0, V.cap0, V.cap0]))) (fun m4 ob5 =>
wpB C I R_c4 (St.mk (look [(1, (s 1)), (5, (s 5)), (8, (s 8)), (9, (s 28)), (10, (V.ptr 10 0)), (26, (s 26)), (27, (s 27)), (28, (s 28))]) (looko ([10, 11, 52].map fun n => (n, (upd (upd (looko ([11, 52].map fun n => (n, o n))) 10 (some (Ob.box [V.d (.int .i64 0), V.d (.int .i64 0), V.d (.int .i64 0), V.d (.int .i64 0), V.d (.int .i64 0), V.cap0, V.d (.int .i64 0), V.d (.int .i64 0), V.d (.int .i64 0), V.d (.int .i64 0), V.d (.int .i64 0), V.d (.int .i64 0), V.d (.int .i64 0), V.d (.int .i64 0), V.d (.int .i64 0), V.d (.int .i64 0), V.d (.int .i64 0), V.d (.int .i64 0), V.cap0, V.cap0, V.cap0, V.cap0]))) m4 (some ob5)) n)))) (blockK 3 [1, 5, 8, 26, 27, 28] (some [11, 52]) (seqK (fun st => wpB C I R_c5 st (seqK (fun s => wpB C I R_l1 s Q) Q)) (seqK (fun s => wpB C I R_l1 s Q) Q))))))))
 (Q (.exit 2) (St.mk (look [(1, (s 1)), (5, (s 5)), (8, (s 8)), (26, (s 26)), (27, (s 27)), (28, (s 28)), (29, x1)]) (looko ([11, 52].map fun n => (n, o n))))))) : wpB C I R_l1 (St.mk s o) Q := w_loopC hL h

theorem g_book_alive_c6_sh {R_l1 : ACode} {C : Ctx} {I : Nat → Prop} {s : Nat → V} {o : Nat → Option Ob} {Q : Ex → St → Prop} : wpB C I (.block 2 [8] (some [52]) (R_l1)) (St.mk s o) Q =
 (wpB C I R_l1 (St.mk s o) (blockK 2 [8] (some [52]) Q)) := rfl

theorem g_book_alive_c7_sh {C : Ctx} {I : Nat → Prop} {s : Nat → V} {o : Nat → Option Ob} {Q : Ex → St → Prop} : wpB C I (.seq (.region [4] (some [52]) none
    [⟨some 54, .mv (.t 8), [], [], none, none⟩,
     ⟨some 4, .mv (.t 54), [], [], none, none⟩])
 (.ret)) (St.mk s o) Q =
 (Q .ret (St.mk (look [(4, (s 8))]) (looko ([52].map fun n => (n, o n))))) := rfl

theorem g_book_alive_c8_sh {R_c6 : ACode} {R_c7 : ACode} {C : Ctx} {I : Nat → Prop} {s : Nat → V} {o : Nat → Option Ob} {Q : Ex → St → Prop} : wpB C I (.seq (.region [1, 2, 5, 8] (some [2, 11, 52]) none
    [⟨some 8, .mv (.c (.cap0)), [], [], none, none⟩])
 (.seq (.seq (.region [1, 5, 8, 26, 27, 28] (some [11, 52]) none
      [⟨some 25, .faddr 0 (.t 2), [], [], none, none⟩,
       ⟨some 26, .load none (.t 25), [], [], none, none⟩,
       ⟨some 27, .len (.t 26), [], [], none, none⟩,
       ⟨some 28, .mv (.c (.d (.int .i64 0))), [], [], none, none⟩])
   (R_c6))
  (R_c7))) (St.mk s o) Q =
 (demand (faddrV 0 (s 2)) (fun x1 =>
demand (loadV (looko ([2, 11, 52].map fun n => (n, o n))) none x1) (fun x2 =>
demand (lenV (looko ([2, 11, 52].map fun n => (n, o n))) x2) (fun x3 =>
wpB C I R_c6 (St.mk (look [(1, (s 1)), (5, (s 5)), (8, (V.cap0)), (26, x2), (27, x3), (28, (V.d (.int .i64 0)))]) (looko ([11, 52].map fun n => (n, o n)))) (seqK (fun st => wpB C I R_c7 st Q) Q))))) := rfl

theorem g_book_alive_code_sh {R_c2 : ACode} {R_c8 : ACode} {C : Ctx} {I : Nat → Prop} {s : Nat → V} {o : Nat → Option Ob} {Q : Ex → St → Prop} : wpB C I (.seq (.region [1, 2] (some [2]) none
    [⟨some 2, .box 2 1 (.t 0), [], [], none, none⟩,
     ⟨some 4, .mv (.c (.cap0)), [], [], none, none⟩])
 (.seq (.region [1, 2, 5] (some [2, 11]) none
     [⟨some 11, .mkmap 11, [], [], none, none⟩,
      ⟨some 5, .mv (.t 11), [], [], none, none⟩])
  (.seq (.seq (.region [1, 2, 5, 13, 14, 15] (some [2, 11]) none
       [⟨some 12, .faddr 0 (.t 2), [], [], none, none⟩,
        ⟨some 13, .load none (.t 12), [], [], none, none⟩,
        ⟨some 14, .len (.t 13), [], [], none, none⟩,
        ⟨some 15, .mv (.c (.d (.int .i64 0))), [], [], none, none⟩])
    (R_c2))
   (R_c8)))) (St.mk s o) Q =
 (lstK (cellsV (s 0)) (fun c1 => c1.length = 1 ∧ ¬ I 2 ∧ Fresh (St.mk s o) 2 (some 2) ∧ V.refsL 2 c1 = false ∧
(¬ I 11 ∧ Fresh (St.mk (look [(1, (s 1)), (2, (V.ptr 2 0))]) (looko ([2].map fun n => (n, (upd o 2 (some (Ob.box c1))) n)))) 11 (some 11) ∧
demand (faddrV 0 (V.ptr 2 0)) (fun x2 =>
demand (loadV (looko ([2, 11].map fun n => (n, (upd (looko ([2].map fun n => (n, (upd o 2 (some (Ob.box c1))) n))) 11 (some (Ob.map []))) n))) none x2) (fun x3 =>
demand (lenV (looko ([2, 11].map fun n => (n, (upd (looko ([2].map fun n => (n, (upd o 2 (some (Ob.box c1))) n))) 11 (some (Ob.map []))) n))) x3) (fun x4 =>
wpB C I R_c2 (St.mk (look [(1, (s 1)), (2, (V.ptr 2 0)), (5, (V.mref 11)), (13, x3), (14, x4), (15, (V.d (.int .i64 0)))]) (looko ([2, 11].map fun n => (n, (upd (looko ([2].map fun n => (n, (upd o 2 (some (Ob.box c1))) n))) 11 (some (Ob.map []))) n)))) (seqK (fun st => wpB C I R_c8 st Q) Q))))))) := rfl


end Pay
