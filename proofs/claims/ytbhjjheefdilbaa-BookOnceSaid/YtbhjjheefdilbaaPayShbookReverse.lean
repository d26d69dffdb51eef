/- What the code of one function comes to, without slots: an equation for each part; no condition. -/
import Derived.Test.YtbhjjheefdilbaaPayU
import Derived.Test.YtbhjjheefdilbaaPayBkCode
set_option maxRecDepth 20000
set_option maxHeartbeats 400000
set_option linter.unusedVariables false
namespace Pay
open Go
theorem g_book_Reverse_o1_sh {C : Ctx} {I : Nat → Prop} {s : Nat → V} {o : Nat → Option Ob} {K : St → Prop} : opsB C I [⟨some 16, .pick (.t 10) (.c (.d (.bool true))) (.t 15), [], [], none, none⟩,
     ⟨some 7, .mv (.t 16), [], [], none, none⟩] (St.mk s o) K =
 (demand (pickV (s 10) (V.d (.bool true)) (s 15)) (fun x1 =>
K (St.mk (upd (upd s 16 x1) 7 x1) o))) := rfl

theorem g_book_Reverse_o0_sh {R_o1 : List AOper} {C : Ctx} {I : Nat → Prop} {s : Nat → V} {o : Nat → Option Ob} {K : St → Prop} : opsB C I (⟨some 11, .mv (.t 1), [], [], (some (2, 10, false)), none⟩ ::
     ⟨some 12, .faddr 0 (.t 2), [], [], (some (2, 10, false)), none⟩ ::
     ⟨some 13, .load none (.t 12), [], [], (some (2, 10, false)), none⟩ ::
     ⟨some 14, .len (.t 13), [], [], (some (2, 10, false)), none⟩ ::
     ⟨some 15, .bin .geq (.t 11) (.t 14), [], [], (some (2, 10, false)), (some ([1, 2, 4, 10, 15], (some [2, 4])))⟩ ::
     R_o1) (St.mk s o) K =
 (guardK (s 10) false
 (demand (faddrV 0 (s 2)) (fun x1 =>
demand (loadV o none x1) (fun x2 =>
demand (lenV o x2) (fun x3 =>
demand (binV BinOp.geq (s 1) x3) (fun x4 =>
opsB C I R_o1 (St.mk (look [(1, (s 1)), (2, (s 2)), (4, (s 4)), (10, (V.d (D.bool false))), (15, x4)]) (looko ([2, 4].map fun n => (n, o n)))) K)))))
 (opsB C I R_o1 (St.mk (look [(1, (s 1)), (2, (s 2)), (4, (s 4)), (10, (V.d (D.bool true))), (15, (V.tup []))]) (looko ([2, 4].map fun n => (n, o n)))) K)
 (opsB C I R_o1 (St.mk (look [(1, (s 1)), (2, (s 2)), (4, (s 4)), (10, (V.tup [])), (15, (V.tup []))]) (looko ([2, 4].map fun n => (n, o n)))) K)) := rfl

theorem g_book_Reverse_c0_sh {C : Ctx} {I : Nat → Prop} {s : Nat → V} {o : Nat → Option Ob} {Q : Ex → St → Prop} : wpB C I (.cond (.t 7) (.seq (.region [4, 5] (some [4]) none
     [⟨some 17, .load (some 1) (.t 2), [], [], none, none⟩,
      ⟨none, .store 1 (.t 4) (.t 17), [], [], none, none⟩,
      ⟨some 5, .mv (.c (.d (.int .i64 5))), [], [], none, none⟩])
  (.ret))
 (.seq (.region [1, 2, 4, 18] (some [2, 4]) none
     [⟨some 19, .faddr 0 (.t 2), [], [], none, none⟩,
      ⟨some 20, .load none (.t 19), [], [], none, none⟩,
      ⟨some 21, .mv (.t 1), [], [], none, none⟩,
      ⟨some 22, .iaddr 22 (.t 20) (.t 21), [], [], none, none⟩,
      ⟨some 23, .faddr 4 (.t 22), [], [], none, none⟩,
      ⟨some 24, .load none (.t 23), [], [], none, none⟩,
      ⟨some 25, .bin .neq (.t 24) (.c (.d (.int .i64 0))), [], [], none, none⟩,
      ⟨some 18, .mv (.t 25), [], [], none, none⟩])
  (.cond (.t 18) (.seq (.region [4, 5] (some [4]) none
       [⟨some 26, .load (some 1) (.t 2), [], [], none, none⟩,
        ⟨none, .store 1 (.t 4) (.t 26), [], [], none, none⟩,
        ⟨some 5, .mv (.c (.d (.int .i64 1))), [], [], none, none⟩])
    (.ret))
   (.seq (.region [1, 2, 4, 27] (some [2, 4]) none
       [⟨some 28, .load (some 1) (.t 2), [], [], none, none⟩,
        ⟨some 29, .mv (.t 1), [], [], none, none⟩,
        ⟨some 30, .call 9 [(.t 28), (.t 29)], [], [], none, none⟩,
        ⟨some 31, .un .not (.t 30), [], [], none, none⟩,
        ⟨some 27, .mv (.t 31), [], [], none, none⟩])
    (.cond (.t 27) (.seq (.region [4, 5] (some [4]) none
         [⟨some 32, .load (some 1) (.t 2), [], [], none, none⟩,
          ⟨none, .store 1 (.t 4) (.t 32), [], [], none, none⟩,
          ⟨some 5, .mv (.c (.d (.int .i64 6))), [], [], none, none⟩])
      (.ret))
     (.skip)))))) (St.mk s o) Q =
 (condK (s 7)
 (demand (loadV o (some 1) (s 2)) (fun x1 =>
storeK (s 4) (cellsV x1) 1 o (fun m2 ob3 =>
Q .ret (St.mk (look [(4, (s 4)), (5, (V.d (.int .i64 5)))]) (looko ([4].map fun n => (n, (upd o m2 (some ob3)) n)))))))
 (demand (faddrV 0 (s 2)) (fun x4 =>
demand (loadV o none x4) (fun x5 =>
demand (iaddrV o 22 x5 (s 1)) (fun x6 =>
demand (faddrV 4 x6) (fun x7 =>
demand (loadV o none x7) (fun x8 =>
demand (binV BinOp.neq x8 (V.d (.int .i64 0))) (fun x9 =>
condK x9
 (demand (loadV (looko ([2, 4].map fun n => (n, o n))) (some 1) (s 2)) (fun x10 =>
storeK (s 4) (cellsV x10) 1 (looko ([2, 4].map fun n => (n, o n))) (fun m11 ob12 =>
Q .ret (St.mk (look [(4, (s 4)), (5, (V.d (.int .i64 1)))]) (looko ([4].map fun n => (n, (upd (looko ([2, 4].map fun n => (n, o n))) m11 (some ob12)) n)))))))
 (demand (loadV (looko ([2, 4].map fun n => (n, o n))) (some 1) (s 2)) (fun x13 =>
callK C I (St.mk (upd (upd (look [(1, (s 1)), (2, (s 2)), (4, (s 4)), (18, x9)]) 28 x13) 29 (s 1)) (looko ([2, 4].map fun n => (n, o n)))) (some 30) 9 [x13, (s 1)] (fun r14 or14 =>
demand (unV UnOp.not r14) (fun x15 =>
condK x15
 (demand (loadV (looko ([2, 4].map fun n => (n, or14 n))) (some 1) (s 2)) (fun x16 =>
storeK (s 4) (cellsV x16) 1 (looko ([2, 4].map fun n => (n, or14 n))) (fun m17 ob18 =>
Q .ret (St.mk (look [(4, (s 4)), (5, (V.d (.int .i64 6)))]) (looko ([4].map fun n => (n, (upd (looko ([2, 4].map fun n => (n, or14 n))) m17 (some ob18)) n)))))))
 (Q .normal (St.mk (look [(1, (s 1)), (2, (s 2)), (4, (s 4)), (27, x15)]) (looko ([2, 4].map fun n => (n, or14 n))))))))))))))))) := rfl

theorem g_book_Reverse_c1_sh {C : Ctx} {I : Nat → Prop} {s : Nat → V} {o : Nat → Option Ob} {Q : Ex → St → Prop} : wpB C I (.seq (.region [4, 5] (some [4]) (some ([0, 1, 3, 4], .one 2 (.one 5 (.one 6 (.one 7 (.one 8 (.done)))))))
    [⟨some 41, .faddr 0 (.t 2), [], [], none, none⟩,
     ⟨some 42, .load none (.t 41), [], [0], none, none⟩,
     ⟨some 43, .call 14 [(.t 42)], [], [1], none, none⟩,
     ⟨some 44, .load (some 22) (.t 6), [], [], none, none⟩,
     ⟨some 45, .bsl none 22 [] 1 [(0, (.t 44))], [], [3], none, none⟩,
     ⟨some 46, .app none 22 256 (.t 43) (.t 45), [], [2, 4, 2], none, none⟩,
     ⟨some 47, .build [.cap0] [(0, 1, (.t 46))], [], [5], none, none⟩,
     ⟨none, .store 1 (.t 4) (.t 47), [], [6, 5, 0, 1, 2, 3, 4, 5, 6], none, none⟩,
     ⟨some 5, .mv (.c (.d (.int .i64 0))), [], [7, 0, 1, 2, 3, 4, 5, 6, 7], none, none⟩])
 (.ret)) (St.mk s o) Q =
 ((s 41) = V.undef ∧ (demand (faddrV 0 (s 2)) (fun x1 => quietV o (x1 :: [(s 2)]) ∧
(s 42) = V.undef ∧ (demand (loadV o none x1) (fun x2 => quietV o (x2 :: [x1]) ∧
(s 44) = V.undef ∧ (demand (loadV o (some 22) (s 6)) (fun x3 => quietV o (x3 :: [(s 6)]) ∧
(s 45) = V.undef ∧ (lstK (partsN 22 [x3]) (fun x4 => quietV o ((V.d (D.sl x4)) :: [x3]) ∧
(([] : List Nat) = [] ∧ (callE C I (St.mk (upd (upd (upd (upd s 41 x1) 42 x2) 44 x3) 45 (V.d (D.sl x4))) o) (some 43) 14 [x2] (fun r5 or5 =>
(([] : List Nat) = [] ∧ ((lstK (readD or5 (V.d (D.sl x4))) (fun ys6 => (∀ e ∈ ys6, e.length = 22) ∧ appK r5
 (ys6.length * 256 ≤ 140737488355328 ∧ ys6.length ≤ 140737488355328 ∧
(([] : List Nat) = [] ∧ (demand ((buildN [V.cap0] [(0, 1, (V.d (D.sl ys6)))]).map V.agg) (fun x11 =>
(([] : List Nat) = [] ∧ (storeK (s 4) (cellsV x11) 1 or5 (fun m12 ob13 =>
(([] : List Nat) = [] ∧ (Q .ret (St.mk (look [(4, (s 4)), (5, (V.d (.int .i64 0)))]) (looko ([4].map fun n => (n, (upd or5 m12 (some ob13)) n)))))))))))))
 (fun m7 => ¬ I m7 ∧ rowK (or5 m7) (fun z8 es9 => z8 = 22 ∧ (es9.length + ys6.length) * 256 ≤ 140737488355328 ∧ es9.length + ys6.length ≤ 140737488355328 ∧
freeK (St.mk (upd (fun t => scrubV m7 ((upd (upd (upd (upd (upd s 41 x1) 42 x2) 44 x3) 45 (V.d (D.sl x4))) 43 r5) t)) 46 (V.own m7)) (upd (fun n => (or5 n).map (Ob.scrub m7)) m7 (some (Ob.row 22 (es9 ++ ys6))))) m7 (fun st10 =>
(([] : List Nat) = [] ∧ (demand ((buildN [V.cap0] [(0, 1, (st10.s 46))]).map V.agg) (fun x14 =>
(([] : List Nat) = [] ∧ (storeK (st10.s 4) (cellsV x14) 1 st10.o (fun m15 ob16 =>
(([] : List Nat) = [] ∧ (Q .ret (St.mk (look [(4, (st10.s 4)), (5, (V.d (.int .i64 0)))]) (looko ([4].map fun n => (n, (upd st10.o m15 (some ob16)) n))))))))))))))))) ∧ ∀ m, r5 = .own m → ∀ n cs, or5 n = some (.box cs) → V.refsL m cs = false)))))))))))))) := rfl

theorem g_book_Reverse_c2_sh {R_c1 : ACode} {C : Ctx} {I : Nat → Prop} {s : Nat → V} {o : Nat → Option Ob} {Q : Ex → St → Prop} : wpB C I (.seq (.region [2, 4, 6] (some [2, 4, 6]) none
    [⟨some 38, .mv (.t 1), [], [], none, none⟩,
     ⟨some 39, .bin .add (.t 38) (.c (.d (.int .i64 1))), [], [], none, none⟩,
     ⟨some 40, .faddr 4 (.t 6), [], [], none, none⟩,
     ⟨none, .store 1 (.t 40) (.t 39), [], [], none, none⟩])
 (R_c1)) (St.mk s o) Q =
 (demand (binV BinOp.add (s 1) (V.d (.int .i64 1))) (fun x1 =>
demand (faddrV 4 (s 6)) (fun x2 =>
storeK x2 (cellsV x1) 1 o (fun m3 ob4 =>
wpB C I R_c1 (St.mk (look [(2, (s 2)), (4, (s 4)), (6, (s 6))]) (looko ([2, 4, 6].map fun n => (n, (upd o m3 (some ob4)) n)))) Q)))) := rfl

theorem g_book_Reverse_c3_sh {R_c2 : ACode} {C : Ctx} {I : Nat → Prop} {s : Nat → V} {o : Nat → Option Ob} {Q : Ex → St → Prop} : wpB C I (.seq (.region [1, 2, 4, 6] (some [2, 4, 6]) none
    [⟨some 33, .faddr 0 (.t 2), [], [], none, none⟩,
     ⟨some 34, .load none (.t 33), [], [], none, none⟩,
     ⟨some 35, .mv (.t 1), [], [], none, none⟩,
     ⟨some 36, .iaddr 22 (.t 34) (.t 35), [], [], none, none⟩,
     ⟨some 37, .load (some 22) (.t 36), [], [], none, none⟩,
     ⟨some 6, .alloc 6 [.d (.int .i64 0), .d (.int .i64 0), .d (.int .i64 0), .d (.int .i64 0), .d (.int .i64 0), .cap0, .d (.int .i64 0), .d (.int .i64 0), .d (.int .i64 0), .d (.int .i64 0), .d (.int .i64 0), .d (.int .i64 0), .d (.int .i64 0), .d (.int .i64 0), .d (.int .i64 0), .d (.int .i64 0), .d (.int .i64 0), .d (.int .i64 0), .cap0, .cap0, .cap0, .cap0], [], [], none, none⟩,
     ⟨none, .store 22 (.t 6) (.t 37), [], [], none, none⟩])
 (R_c2)) (St.mk s o) Q =
 (demand (faddrV 0 (s 2)) (fun x1 =>
demand (loadV o none x1) (fun x2 =>
demand (iaddrV o 22 x2 (s 1)) (fun x3 =>
demand (loadV o (some 22) x3) (fun x4 =>
(¬ I 6 ∧ Fresh (St.mk (upd (upd (upd (upd (upd s 33 x1) 34 x2) 35 (s 1)) 36 x3) 37 x4) o) 6 (some 6) ∧ V.refsL 6 [V.d (.int .i64 0), V.d (.int .i64 0), V.d (.int .i64 0), V.d (.int .i64 0), V.d (.int .i64 0), V.cap0, V.d (.int .i64 0), V.d (.int .i64 0), V.d (.int .i64 0), V.d (.int .i64 0), V.d (.int .i64 0), V.d (.int .i64 0), V.d (.int .i64 0), V.d (.int .i64 0), V.d (.int .i64 0), V.d (.int .i64 0), V.d (.int .i64 0), V.d (.int .i64 0), V.cap0, V.cap0, V.cap0, V.cap0] = false ∧
storeK (V.ptr 6 0) (cellsV x4) 22 (upd o 6 (some (Ob.box [V.d (.int .i64 0), V.d (.int .i64 0), V.d (.int .i64 0), V.d (.int .i64 0), V.d (.int .i64 0), V.cap0, V.d (.int .i64 0), V.d (.int .i64 0), V.d (.int .i64 0), V.d (.int .i64 0), V.d (.int .i64 0), V.d (.int .i64 0), V.d (.int .i64 0), V.d (.int .i64 0), V.d (.int .i64 0), V.d (.int .i64 0), V.d (.int .i64 0), V.d (.int .i64 0), V.cap0, V.cap0, V.cap0, V.cap0]))) (fun m5 ob6 =>
wpB C I R_c2 (St.mk (look [(1, (s 1)), (2, (s 2)), (4, (s 4)), (6, (V.ptr 6 0))]) (looko ([2, 4, 6].map fun n => (n, (upd (upd o 6 (some (Ob.box [V.d (.int .i64 0), V.d (.int .i64 0), V.d (.int .i64 0), V.d (.int .i64 0), V.d (.int .i64 0), V.cap0, V.d (.int .i64 0), V.d (.int .i64 0), V.d (.int .i64 0), V.d (.int .i64 0), V.d (.int .i64 0), V.d (.int .i64 0), V.d (.int .i64 0), V.d (.int .i64 0), V.d (.int .i64 0), V.d (.int .i64 0), V.d (.int .i64 0), V.d (.int .i64 0), V.cap0, V.cap0, V.cap0, V.cap0]))) m5 (some ob6)) n)))) Q))))))) := rfl

theorem g_book_Reverse_code_sh {R_o0 : List AOper} {R_c0 : ACode} {R_c3 : ACode} {C : Ctx} {I : Nat → Prop} {s : Nat → V} {o : Nat → Option Ob} {Q : Ex → St → Prop} : wpB C I (.seq (.region [1, 2, 4] (some [2, 4]) none
    [⟨some 2, .box 2 1 (.t 0), [], [], none, none⟩,
     ⟨some 4, .alloc 4 [.cap0], [], [], none, none⟩,
     ⟨some 5, .mv (.c (.d (.int .i64 0))), [], [], none, none⟩])
 (.seq (.block 0 [1, 2, 4] (some [2, 4]) (.seq (.region [1, 2, 4, 7] (some [2, 4]) none
       (⟨some 8, .mv (.t 1), [], [], none, none⟩ ::
        ⟨some 9, .bin .lss (.t 8) (.c (.d (.int .i64 0))), [], [], none, none⟩ ::
        ⟨some 10, .mv (.t 9), [], [], none, (some ([1, 2, 4, 10], (some [2, 4])))⟩ ::
        R_o0))
    (R_c0)))
  (R_c3))) (St.mk s o) Q =
 (lstK (cellsV (s 0)) (fun c1 => c1.length = 1 ∧ ¬ I 2 ∧ Fresh (St.mk s o) 2 (some 2) ∧ V.refsL 2 c1 = false ∧
(¬ I 4 ∧ Fresh (St.mk (upd s 2 (V.ptr 2 0)) (upd o 2 (some (Ob.box c1)))) 4 (some 4) ∧ V.refsL 4 [V.cap0] = false ∧
demand (binV BinOp.lss (s 1) (V.d (.int .i64 0))) (fun x2 =>
opsB C I R_o0 (St.mk (look [(1, (s 1)), (2, (V.ptr 2 0)), (4, (V.ptr 4 0)), (10, x2)]) (looko ([2, 4].map fun n => (n, (upd (upd o 2 (some (Ob.box c1))) 4 (some (Ob.box [V.cap0]))) n)))) (fun st => (seqK (fun st => wpB C I R_c0 st (blockK 0 [1, 2, 4] (some [2, 4]) (seqK (fun st => wpB C I R_c3 st Q) Q))) (blockK 0 [1, 2, 4] (some [2, 4]) (seqK (fun st => wpB C I R_c3 st Q) Q))) .normal (St.trim st [1, 2, 4, 7] (some [2, 4]))))))) := rfl


end Pay
