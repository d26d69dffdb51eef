/- What the code of one function comes to, without slots: an equation for each part; no condition. -/
import Derived.Test.YtbhjjheefdilbaaPayU
import Derived.Test.YtbhjjheefdilbaaPayBkCode
set_option maxRecDepth 20000
set_option maxHeartbeats 400000
set_option linter.unusedVariables false
namespace Pay
open Go
theorem g_book_Add_c0_sh {C : Ctx} {I : Nat → Prop} {s : Nat → V} {o : Nat → Option Ob} {Q : Ex → St → Prop} : wpB C I (.seq (.region [4, 5] (some [4]) (some ([0, 1, 3, 4], .one 2 (.one 5 (.one 6 (.one 7 (.one 8 (.done)))))))
    [⟨some 20, .faddr 0 (.t 2), [], [], none, none⟩,
     ⟨some 21, .load none (.t 20), [], [0], none, none⟩,
     ⟨some 22, .call 14 [(.t 21)], [], [1], none, none⟩,
     ⟨some 23, .load (some 22) (.t 3), [], [], none, none⟩,
     ⟨some 24, .bsl none 22 [] 1 [(0, (.t 23))], [], [3], none, none⟩,
     ⟨some 25, .app none 22 256 (.t 22) (.t 24), [], [2, 4, 2], none, none⟩,
     ⟨some 26, .build [.cap0] [(0, 1, (.t 25))], [], [5], none, none⟩,
     ⟨none, .store 1 (.t 4) (.t 26), [], [6, 5, 0, 1, 2, 3, 4, 5, 6], none, none⟩,
     ⟨some 5, .mv (.c (.d (.int .i64 0))), [], [7, 0, 1, 2, 3, 4, 5, 6, 7], none, none⟩])
 (.ret)) (St.mk s o) Q =
 ((s 20) = V.undef ∧ (demand (faddrV 0 (s 2)) (fun x1 => quietV o (x1 :: [(s 2)]) ∧
(s 21) = V.undef ∧ (demand (loadV o none x1) (fun x2 => quietV o (x2 :: [x1]) ∧
(s 23) = V.undef ∧ (demand (loadV o (some 22) (s 3)) (fun x3 => quietV o (x3 :: [(s 3)]) ∧
(s 24) = V.undef ∧ (lstK (partsN 22 [x3]) (fun x4 => quietV o ((V.d (D.sl x4)) :: [x3]) ∧
(([] : List Nat) = [] ∧ (callE C I (St.mk (upd (upd (upd (upd s 20 x1) 21 x2) 23 x3) 24 (V.d (D.sl x4))) o) (some 22) 14 [x2] (fun r5 or5 =>
(([] : List Nat) = [] ∧ ((lstK (readD or5 (V.d (D.sl x4))) (fun ys6 => (∀ e ∈ ys6, e.length = 22) ∧ appK r5
 (ys6.length * 256 ≤ 140737488355328 ∧ ys6.length ≤ 140737488355328 ∧
(([] : List Nat) = [] ∧ (demand ((buildN [V.cap0] [(0, 1, (V.d (D.sl ys6)))]).map V.agg) (fun x11 =>
(([] : List Nat) = [] ∧ (storeK (s 4) (cellsV x11) 1 or5 (fun m12 ob13 =>
(([] : List Nat) = [] ∧ (Q .ret (St.mk (look [(4, (s 4)), (5, (V.d (.int .i64 0)))]) (looko ([4].map fun n => (n, (upd or5 m12 (some ob13)) n)))))))))))))
 (fun m7 => ¬ I m7 ∧ rowK (or5 m7) (fun z8 es9 => z8 = 22 ∧ (es9.length + ys6.length) * 256 ≤ 140737488355328 ∧ es9.length + ys6.length ≤ 140737488355328 ∧
freeK (St.mk (upd (fun t => scrubV m7 ((upd (upd (upd (upd (upd s 20 x1) 21 x2) 23 x3) 24 (V.d (D.sl x4))) 22 r5) t)) 25 (V.own m7)) (upd (fun n => (or5 n).map (Ob.scrub m7)) m7 (some (Ob.row 22 (es9 ++ ys6))))) m7 (fun st10 =>
(([] : List Nat) = [] ∧ (demand ((buildN [V.cap0] [(0, 1, (st10.s 25))]).map V.agg) (fun x14 =>
(([] : List Nat) = [] ∧ (storeK (st10.s 4) (cellsV x14) 1 st10.o (fun m15 ob16 =>
(([] : List Nat) = [] ∧ (Q .ret (St.mk (look [(4, (st10.s 4)), (5, (V.d (.int .i64 0)))]) (looko ([4].map fun n => (n, (upd st10.o m15 (some ob16)) n))))))))))))))))) ∧ ∀ m, r5 = .own m → ∀ n cs, or5 n = some (.box cs) → V.refsL m cs = false)))))))))))))) := rfl

theorem g_book_Add_c1_sh {R_c0 : ACode} {C : Ctx} {I : Nat → Prop} {s : Nat → V} {o : Nat → Option Ob} {Q : Ex → St → Prop} : wpB C I (.seq (.block 0 [2, 3, 4] (some [2, 3, 4]) (.seq (.region [2, 3, 4, 6] (some [2, 3, 4]) none
      [⟨some 7, .faddr 4 (.t 3), [], [], none, none⟩,
       ⟨some 8, .load none (.t 7), [], [], none, none⟩,
       ⟨some 9, .bin .neq (.t 8) (.c (.d (.int .i64 0))), [], [], none, none⟩,
       ⟨some 6, .mv (.t 9), [], [], none, none⟩])
   (.cond (.t 6) (.seq (.region [4, 5] (some [4]) none
        [⟨some 10, .load (some 1) (.t 2), [], [], none, none⟩,
         ⟨none, .store 1 (.t 4) (.t 10), [], [], none, none⟩,
         ⟨some 5, .mv (.c (.d (.int .i64 1))), [], [], none, none⟩])
     (.ret))
    (.seq (.region [2, 3, 4, 11] (some [2, 3, 4]) none
        [⟨some 12, .load (some 1) (.t 2), [], [], none, none⟩,
         ⟨some 13, .faddr 2 (.t 3), [], [], none, none⟩,
         ⟨some 14, .load none (.t 13), [], [], none, none⟩,
         ⟨some 15, .faddr 1 (.t 3), [], [], none, none⟩,
         ⟨some 16, .load none (.t 15), [], [], none, none⟩,
         ⟨some 17, .call 8 [(.t 12), (.t 14), (.t 16)], [], [], none, none⟩,
         ⟨some 18, .bin .geq (.t 17) (.c (.d (.int .i64 0))), [], [], none, none⟩,
         ⟨some 11, .mv (.t 18), [], [], none, none⟩])
     (.cond (.t 11) (.seq (.region [4, 5] (some [4]) none
          [⟨some 19, .load (some 1) (.t 2), [], [], none, none⟩,
           ⟨none, .store 1 (.t 4) (.t 19), [], [], none, none⟩,
           ⟨some 5, .mv (.c (.d (.int .i64 6))), [], [], none, none⟩])
       (.ret))
      (.skip))))))
 (R_c0)) (St.mk s o) Q =
 (demand (faddrV 4 (s 3)) (fun x1 =>
demand (loadV o none x1) (fun x2 =>
demand (binV BinOp.neq x2 (V.d (.int .i64 0))) (fun x3 =>
condK x3
 (demand (loadV (looko ([2, 3, 4].map fun n => (n, o n))) (some 1) (s 2)) (fun x4 =>
storeK (s 4) (cellsV x4) 1 (looko ([2, 3, 4].map fun n => (n, o n))) (fun m5 ob6 =>
Q .ret (St.mk (look [(4, (s 4)), (5, (V.d (.int .i64 1)))]) (looko ([4].map fun n => (n, (upd (looko ([2, 3, 4].map fun n => (n, o n))) m5 (some ob6)) n)))))))
 (demand (loadV (looko ([2, 3, 4].map fun n => (n, o n))) (some 1) (s 2)) (fun x7 =>
demand (faddrV 2 (s 3)) (fun x8 =>
demand (loadV (looko ([2, 3, 4].map fun n => (n, o n))) none x8) (fun x9 =>
demand (faddrV 1 (s 3)) (fun x10 =>
demand (loadV (looko ([2, 3, 4].map fun n => (n, o n))) none x10) (fun x11 =>
callK C I (St.mk (upd (upd (upd (upd (upd (look [(2, (s 2)), (3, (s 3)), (4, (s 4)), (6, x3)]) 12 x7) 13 x8) 14 x9) 15 x10) 16 x11) (looko ([2, 3, 4].map fun n => (n, o n)))) (some 17) 8 [x7, x9, x11] (fun r12 or12 =>
demand (binV BinOp.geq r12 (V.d (.int .i64 0))) (fun x13 =>
condK x13
 (demand (loadV (looko ([2, 3, 4].map fun n => (n, or12 n))) (some 1) (s 2)) (fun x14 =>
storeK (s 4) (cellsV x14) 1 (looko ([2, 3, 4].map fun n => (n, or12 n))) (fun m15 ob16 =>
Q .ret (St.mk (look [(4, (s 4)), (5, (V.d (.int .i64 6)))]) (looko ([4].map fun n => (n, (upd (looko ([2, 3, 4].map fun n => (n, or12 n))) m15 (some ob16)) n)))))))
 (wpB C I R_c0 (St.mk (look [(2, (s 2)), (3, (s 3)), (4, (s 4))]) (looko ([2, 3, 4].map fun n => (n, or12 n)))) Q))))))))))))) := rfl

theorem g_book_Add_code_sh {R_c1 : ACode} {C : Ctx} {I : Nat → Prop} {s : Nat → V} {o : Nat → Option Ob} {Q : Ex → St → Prop} : wpB C I (.seq (.region [2, 3, 4] (some [2, 3, 4]) none
    [⟨some 2, .box 2 1 (.t 0), [], [], none, none⟩,
     ⟨some 3, .box 3 22 (.t 1), [], [], none, none⟩,
     ⟨some 4, .alloc 4 [.cap0], [], [], none, none⟩,
     ⟨some 5, .mv (.c (.d (.int .i64 0))), [], [], none, none⟩])
 (R_c1)) (St.mk s o) Q =
 (lstK (cellsV (s 0)) (fun c1 => c1.length = 1 ∧ ¬ I 2 ∧ Fresh (St.mk s o) 2 (some 2) ∧ V.refsL 2 c1 = false ∧
lstK (cellsV (s 1)) (fun c2 => c2.length = 22 ∧ ¬ I 3 ∧ Fresh (St.mk (upd s 2 (V.ptr 2 0)) (upd o 2 (some (Ob.box c1)))) 3 (some 3) ∧ V.refsL 3 c2 = false ∧
(¬ I 4 ∧ Fresh (St.mk (upd (upd s 2 (V.ptr 2 0)) 3 (V.ptr 3 0)) (upd (upd o 2 (some (Ob.box c1))) 3 (some (Ob.box c2)))) 4 (some 4) ∧ V.refsL 4 [V.cap0] = false ∧
wpB C I R_c1 (St.mk (look [(2, (V.ptr 2 0)), (3, (V.ptr 3 0)), (4, (V.ptr 4 0))]) (looko ([2, 3, 4].map fun n => (n, (upd (upd (upd o 2 (some (Ob.box c1))) 3 (some (Ob.box c2))) 4 (some (Ob.box [V.cap0]))) n)))) Q)))) := rfl


end Pay
