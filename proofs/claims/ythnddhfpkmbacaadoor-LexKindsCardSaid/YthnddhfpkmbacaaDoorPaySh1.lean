/- What the code of the functions comes to, without slots: an equation for each part; no condition. -/
import Derived.Test.YthnddhfpkmbacaaDoorPayU
import Derived.Test.YthnddhfpkmbacaaDoorPayCode0
set_option maxRecDepth 20000
set_option maxHeartbeats 400000
set_option linter.unusedVariables false
namespace Pay
open Go
theorem g_money_Text_code_sh {R_c2 : ACode} {C : Ctx} {I : Nat → Prop} {s : Nat → V} {o : Nat → Option Ob} {Q : Ex → St → Prop} : wpB C I (.seq (.region [0] (some []) none
    [⟨some 2, .mv (.c (.d (.str []))), [], [], none, none⟩,
     ⟨some 3, .mv (.c (.d (.int .i64 0))), [], [], none, none⟩])
 (.seq (.seq (.region [0, 8] (some []) none
      [⟨some 6, .mv (.t 0), [], [], none, none⟩,
       ⟨some 7, .call 58 [(.t 6)], [], [], none, none⟩,
       ⟨some 8, .un .not (.t 7), [], [], none, none⟩])
   (.cond (.t 8) (.seq (.region [2, 3] (some []) none
        [⟨some 2, .mv (.c (.d (.str []))), [], [], none, none⟩,
         ⟨some 3, .mv (.c (.d (.int .i64 3))), [], [], none, none⟩])
     (.ret))
    (.skip)))
  (R_c2))) (St.mk s o) Q =
 (callK C I (St.mk (upd (look [(0, (s 0))]) 6 (s 0)) (looko ([].map fun n => (n, o n)))) (some 7) 58 [(s 0)] (fun r1 or1 =>
demand (unV UnOp.not r1) (fun x2 =>
condK x2
 (Q .ret (St.mk (look [(2, (V.d (.str []))), (3, (V.d (.int .i64 3)))]) (looko ([].map fun n => (n, or1 n)))))
 (wpB C I R_c2 (St.mk (look [(0, (s 0)), (8, x2)]) (looko ([].map fun n => (n, or1 n)))) Q)))) := rfl
theorem g_strings_CutSuffix_code_sh {C : Ctx} {I : Nat → Prop} {s : Nat → V} {o : Nat → Option Ob} {Q : Ex → St → Prop} : wpB C I (.seq (.region [0, 1] (some []) none
    [⟨some 4, .mv (.c (.d (.str []))), [], [], none, none⟩,
     ⟨some 5, .mv (.c (.d (.bool false))), [], [], none, none⟩])
 (.seq (.region [4, 5] (some []) none
     [⟨some 6, .mv (.t 0), [], [], none, none⟩,
      ⟨some 7, .mv (.t 1), [], [], none, none⟩,
      ⟨some 8, .call 122 [(.t 6), (.t 7)], [], [], none, none⟩,
      ⟨some 9, .ext (.t 8) 0, [], [], none, none⟩,
      ⟨some 10, .ext (.t 8) 1, [], [], none, none⟩,
      ⟨some 4, .mv (.t 9), [], [], none, none⟩,
      ⟨some 5, .mv (.t 10), [], [], none, none⟩])
  (.ret))) (St.mk s o) Q =
 (callK C I (St.mk (upd (upd (look [(0, (s 0)), (1, (s 1))]) 6 (s 0)) 7 (s 1)) (looko ([].map fun n => (n, o n)))) (some 8) 122 [(s 0), (s 1)] (fun r1 or1 =>
demand (extV r1 0) (fun x2 =>
demand (extV r1 1) (fun x3 =>
Q .ret (St.mk (look [(4, x2), (5, x3)]) (looko ([].map fun n => (n, or1 n)))))))) := rfl
theorem g_money_Parse_o1_sh {C : Ctx} {I : Nat → Prop} {s : Nat → V} {o : Nat → Option Ob} {K : St → Prop} : opsB C I [⟨some 20, .pick (.t 16) (.c (.d (.bool true))) (.t 19), [], [], none, none⟩] (St.mk s o) K =
 (demand (pickV (s 16) (V.d (.bool true)) (s 19)) (fun x1 =>
K (St.mk (upd s 20 x1) o))) := rfl
theorem g_money_Parse_o0_sh {R_o1 : List AOper} {C : Ctx} {I : Nat → Prop} {s : Nat → V} {o : Nat → Option Ob} {K : St → Prop} : opsB C I (⟨some 17, .mv (.t 4), [], [], (some (2, 16, false)), none⟩ ::
     ⟨some 18, .call 58 [(.t 17)], [], [], (some (2, 16, false)), none⟩ ::
     ⟨some 19, .un .not (.t 18), [], [], (some (2, 16, false)), (some ([0, 4, 16, 19], (some [])))⟩ ::
     R_o1) (St.mk s o) K =
 (guardK (s 16) false
 (callK C I (St.mk (upd (upd (upd s 16 (V.d (D.bool false))) 17 (s 4)) 16 (V.d (D.bool false))) o) (some 18) 58 [(s 4)] (fun r1 or1 =>
demand (unV UnOp.not r1) (fun x2 =>
opsB C I R_o1 (St.mk (look [(0, (s 0)), (4, (s 4)), (16, (V.d (D.bool false))), (19, x2)]) (looko ([].map fun n => (n, or1 n)))) K)))
 (opsB C I R_o1 (St.mk (look [(0, (s 0)), (4, (s 4)), (16, (V.d (D.bool true))), (19, (V.tup []))]) (looko ([].map fun n => (n, o n)))) K)
 (opsB C I R_o1 (St.mk (look [(0, (s 0)), (4, (s 4)), (16, (V.tup [])), (19, (V.tup []))]) (looko ([].map fun n => (n, o n)))) K)) := rfl
theorem g_money_Parse_c0_sh {C : Ctx} {I : Nat → Prop} {s : Nat → V} {o : Nat → Option Ob} {Q : Ex → St → Prop} : wpB C I (.cond (.t 20) (.seq (.region [2, 3] (some []) none
     [⟨some 2, .mv (.c (.d (.int .i64 0))), [], [], none, none⟩,
      ⟨some 3, .mv (.c (.d (.bool false))), [], [], none, none⟩])
  (.ret))
 (.skip)) (St.mk s o) Q =
 (condK (s 20)
 (Q .ret (St.mk (look [(2, (V.d (.int .i64 0))), (3, (V.d (.bool false)))]) (looko ([].map fun n => (n, o n)))))
 (Q .normal (St.mk s o))) := rfl
theorem g_money_Parse_c1_sh {C : Ctx} {I : Nat → Prop} {s : Nat → V} {o : Nat → Option Ob} {Q : Ex → St → Prop} : wpB C I (.seq (.region [4, 28] (some []) none
    [⟨some 26, .mv (.t 6), [], [], none, none⟩,
     ⟨some 27, .mv (.t 0), [], [], none, none⟩,
     ⟨some 28, .bin .neq (.t 26) (.t 27), [], [], none, none⟩])
 (.cond (.t 28) (.seq (.region [2, 3] (some []) none
      [⟨some 2, .mv (.c (.d (.int .i64 0))), [], [], none, none⟩,
       ⟨some 3, .mv (.c (.d (.bool false))), [], [], none, none⟩])
   (.ret))
  (.skip))) (St.mk s o) Q =
 (demand (binV BinOp.neq (s 6) (s 0)) (fun x1 =>
condK x1
 (Q .ret (St.mk (look [(2, (V.d (.int .i64 0))), (3, (V.d (.bool false)))]) (looko ([].map fun n => (n, o n)))))
 (Q .normal (St.mk (look [(4, (s 4)), (28, x1)]) (looko ([].map fun n => (n, o n))))))) := rfl
theorem g_money_Parse_c2_sh {C : Ctx} {I : Nat → Prop} {s : Nat → V} {o : Nat → Option Ob} {Q : Ex → St → Prop} : wpB C I (.seq (.region [2, 3] (some []) none
    [⟨some 29, .mv (.t 4), [], [], none, none⟩,
     ⟨some 2, .mv (.t 29), [], [], none, none⟩,
     ⟨some 3, .mv (.c (.d (.bool true))), [], [], none, none⟩])
 (.ret)) (St.mk s o) Q =
 (Q .ret (St.mk (look [(2, (s 4)), (3, (V.d (.bool true)))]) (looko ([].map fun n => (n, o n))))) := rfl
theorem g_money_Parse_c3_sh {R_c1 : ACode} {R_c2 : ACode} {C : Ctx} {I : Nat → Prop} {s : Nat → V} {o : Nat → Option Ob} {Q : Ex → St → Prop} : wpB C I (.seq (.seq (.region [0, 4, 6] (some []) none
     [⟨some 22, .mv (.t 4), [], [], none, none⟩,
      ⟨some 23, .call 50 [(.t 22)], [], [], none, none⟩,
      ⟨some 21, .mv (.t 23), [], [], none, none⟩,
      ⟨some 24, .ext (.t 21) 0, [], [], none, none⟩,
      ⟨some 25, .ext (.t 21) 1, [], [], none, none⟩,
      ⟨some 6, .mv (.t 24), [], [], none, none⟩,
      ⟨some 7, .mv (.t 25), [], [], none, none⟩])
  (R_c1))
 (R_c2)) (St.mk s o) Q =
 (callK C I (St.mk (upd s 22 (s 4)) o) (some 23) 50 [(s 4)] (fun r1 or1 =>
demand (extV r1 0) (fun x2 =>
demand (extV r1 1) (fun x3 =>
wpB C I R_c1 (St.mk (look [(0, (s 0)), (4, (s 4)), (6, x2)]) (looko ([].map fun n => (n, or1 n)))) (seqK (fun st => wpB C I R_c2 st Q) Q))))) := rfl
theorem g_money_Parse_c4_sh {R_o0 : List AOper} {R_c0 : ACode} {R_c3 : ACode} {C : Ctx} {I : Nat → Prop} {s : Nat → V} {o : Nat → Option Ob} {Q : Ex → St → Prop} : wpB C I (.seq (.seq (.region [0, 4, 20] (some []) none
     (⟨some 14, .mv (.t 5), [], [], none, none⟩ ::
      ⟨some 15, .nilE true (.t 14), [], [], none, none⟩ ::
      ⟨some 16, .mv (.t 15), [], [], none, (some ([0, 4, 16], (some [])))⟩ ::
      R_o0))
  (R_c0))
 (R_c3)) (St.mk s o) Q =
 (demand (nilEV true (s 5)) (fun x1 =>
opsB C I R_o0 (St.mk (look [(0, (s 0)), (4, (s 4)), (16, x1)]) (looko ([].map fun n => (n, o n)))) (fun st => (seqK (fun st => wpB C I R_c0 st (seqK (fun st => wpB C I R_c3 st Q) Q)) (seqK (fun st => wpB C I R_c3 st Q) Q)) .normal (St.trim st [0, 4, 20] (some []))))) := rfl
theorem g_money_Parse_code_sh {R_c4 : ACode} {C : Ctx} {I : Nat → Prop} {s : Nat → V} {o : Nat → Option Ob} {Q : Ex → St → Prop} : wpB C I (.seq (.region [0] (some []) none
    [⟨some 2, .mv (.c (.d (.int .i64 0))), [], [], none, none⟩,
     ⟨some 3, .mv (.c (.d (.bool false))), [], [], none, none⟩])
 (.seq (.region [0, 4, 5] (some []) none
     [⟨some 9, .mv (.t 0), [], [], none, none⟩,
      ⟨some 10, .call 69 [(.t 9), (.c (.d (.str [46]))), (.c (.d (.str []))), (.c (.d (.int .i64 1)))], [], [], none, none⟩,
      ⟨some 11, .call 70 [(.t 10)], [], [], none, none⟩,
      ⟨some 8, .mv (.t 11), [], [], none, none⟩,
      ⟨some 12, .ext (.t 8) 0, [], [], none, none⟩,
      ⟨some 13, .ext (.t 8) 1, [], [], none, none⟩,
      ⟨some 4, .mv (.t 12), [], [], none, none⟩,
      ⟨some 5, .mv (.t 13), [], [], none, none⟩])
  (R_c4))) (St.mk s o) Q =
 (callK C I (St.mk (upd (look [(0, (s 0))]) 9 (s 0)) (looko ([].map fun n => (n, o n)))) (some 10) 69 [(s 0), (V.d (.str [46])), (V.d (.str [])), (V.d (.int .i64 1))] (fun r1 or1 =>
callK C I (St.mk (upd (upd (look [(0, (s 0))]) 9 (s 0)) 10 r1) or1) (some 11) 70 [r1] (fun r2 or2 =>
demand (extV r2 0) (fun x3 =>
demand (extV r2 1) (fun x4 =>
wpB C I R_c4 (St.mk (look [(0, (s 0)), (4, x3), (5, x4)]) (looko ([].map fun n => (n, or2 n)))) Q))))) := rfl
theorem g_ref01_Text_c0_sh {C : Ctx} {I : Nat → Prop} {s : Nat → V} {o : Nat → Option Ob} {Q : Ex → St → Prop} : wpB C I (.seq (.region [2] (some []) none
    [⟨some 9, .mv (.t 0), [], [], none, none⟩,
     ⟨some 10, .bin .quo (.t 9) (.c (.d (.int .i64 100))), [], [], none, none⟩,
     ⟨some 11, .call 71 [(.t 10)], [], [], none, none⟩,
     ⟨some 12, .bin .add (.t 11) (.c (.d (.str [46]))), [], [], none, none⟩,
     ⟨some 13, .mv (.t 0), [], [], none, none⟩,
     ⟨some 14, .bin .rem (.t 13) (.c (.d (.int .i64 100))), [], [], none, none⟩,
     ⟨some 15, .bin .quo (.t 14) (.c (.d (.int .i64 10))), [], [], none, none⟩,
     ⟨some 16, .call 71 [(.t 15)], [], [], none, none⟩,
     ⟨some 17, .bin .add (.t 12) (.t 16), [], [], none, none⟩,
     ⟨some 18, .mv (.t 0), [], [], none, none⟩,
     ⟨some 19, .bin .rem (.t 18) (.c (.d (.int .i64 10))), [], [], none, none⟩,
     ⟨some 20, .call 71 [(.t 19)], [], [], none, none⟩,
     ⟨some 21, .bin .add (.t 17) (.t 20), [], [], none, none⟩,
     ⟨some 2, .mv (.t 21), [], [], none, none⟩])
 (.ret)) (St.mk s o) Q =
 (demand (binV BinOp.quo (s 0) (V.d (.int .i64 100))) (fun x1 =>
callK C I (St.mk (upd (upd s 9 (s 0)) 10 x1) o) (some 11) 71 [x1] (fun r2 or2 =>
demand (binV BinOp.add r2 (V.d (.str [46]))) (fun x3 =>
demand (binV BinOp.rem (s 0) (V.d (.int .i64 100))) (fun x4 =>
demand (binV BinOp.quo x4 (V.d (.int .i64 10))) (fun x5 =>
callK C I (St.mk (upd (upd (upd (upd (upd (upd (upd s 9 (s 0)) 10 x1) 11 r2) 12 x3) 13 (s 0)) 14 x4) 15 x5) or2) (some 16) 71 [x5] (fun r6 or6 =>
demand (binV BinOp.add x3 r6) (fun x7 =>
demand (binV BinOp.rem (s 0) (V.d (.int .i64 10))) (fun x8 =>
callK C I (St.mk (upd (upd (upd (upd (upd (upd (upd (upd (upd (upd (upd s 9 (s 0)) 10 x1) 11 r2) 12 x3) 13 (s 0)) 14 x4) 15 x5) 16 r6) 17 x7) 18 (s 0)) 19 x8) or6) (some 20) 71 [x8] (fun r9 or9 =>
demand (binV BinOp.add x7 r9) (fun x10 =>
Q .ret (St.mk (look [(2, x10)]) (looko ([].map fun n => (n, or9 n))))))))))))))) := rfl
theorem g_ref01_Text_code_sh {R_c0 : ACode} {C : Ctx} {I : Nat → Prop} {s : Nat → V} {o : Nat → Option Ob} {Q : Ex → St → Prop} : wpB C I (.seq (.region [0] (some []) none
    [⟨some 2, .mv (.c (.d (.str []))), [], [], none, none⟩])
 (.seq (.seq (.region [0, 4] (some []) none
      [⟨some 3, .mv (.t 0), [], [], none, none⟩,
       ⟨some 4, .bin .lss (.t 3) (.c (.d (.int .i64 0))), [], [], none, none⟩])
   (.cond (.t 4) (.seq (.region [2] (some []) none
        [⟨some 5, .mv (.t 0), [], [], none, none⟩,
         ⟨some 6, .un .neg (.t 5), [], [], none, none⟩,
         ⟨some 7, .call 54 [(.t 6)], [], [], none, none⟩,
         ⟨some 8, .bin .add (.c (.d (.str [45]))) (.t 7), [], [], none, none⟩,
         ⟨some 2, .mv (.t 8), [], [], none, none⟩])
     (.ret))
    (.skip)))
  (R_c0))) (St.mk s o) Q =
 (demand (binV BinOp.lss (s 0) (V.d (.int .i64 0))) (fun x1 =>
condK x1
 (demand (unV UnOp.neg (s 0)) (fun x2 =>
callK C I (St.mk (upd (upd (look [(0, (s 0)), (4, x1)]) 5 (s 0)) 6 x2) (looko ([].map fun n => (n, o n)))) (some 7) 54 [x2] (fun r3 or3 =>
demand (binV BinOp.add (V.d (.str [45])) r3) (fun x4 =>
Q .ret (St.mk (look [(2, x4)]) (looko ([].map fun n => (n, or3 n))))))))
 (wpB C I R_c0 (St.mk (look [(0, (s 0)), (4, x1)]) (looko ([].map fun n => (n, o n)))) Q))) := rfl
theorem g_lex_letter_o1_sh {C : Ctx} {I : Nat → Prop} {s : Nat → V} {o : Nat → Option Ob} {K : St → Prop} : opsB C I [⟨some 8, .pick (.t 5) (.t 7) (.c (.d (.bool false))), [], [], none, none⟩,
     ⟨some 2, .mv (.t 8), [], [], none, none⟩] (St.mk s o) K =
 (demand (pickV (s 5) (s 7) (V.d (.bool false))) (fun x1 =>
K (St.mk (upd (upd s 8 x1) 2 x1) o))) := rfl
theorem g_lex_letter_o0_sh {R_o1 : List AOper} {C : Ctx} {I : Nat → Prop} {s : Nat → V} {o : Nat → Option Ob} {K : St → Prop} : opsB C I (⟨some 6, .mv (.t 0), [], [], (some (2, 5, true)), none⟩ ::
     ⟨some 7, .bin .leq (.t 6) (.c (.d (.int .u8 122))), [], [], (some (2, 5, true)), (some ([5, 7], (some [])))⟩ ::
     R_o1) (St.mk s o) K =
 (guardK (s 5) true
 (demand (binV BinOp.leq (s 0) (V.d (.int .u8 122))) (fun x1 =>
opsB C I R_o1 (St.mk (look [(5, (V.d (D.bool true))), (7, x1)]) (looko ([].map fun n => (n, o n)))) K))
 (opsB C I R_o1 (St.mk (look [(5, (V.d (D.bool false))), (7, (V.tup []))]) (looko ([].map fun n => (n, o n)))) K)
 (opsB C I R_o1 (St.mk (look [(5, (V.tup [])), (7, (V.tup []))]) (looko ([].map fun n => (n, o n)))) K)) := rfl
theorem g_lex_letter_c0_sh {C : Ctx} {I : Nat → Prop} {s : Nat → V} {o : Nat → Option Ob} {Q : Ex → St → Prop} : wpB C I (.ret) (St.mk s o) Q =
 (Q .ret (St.mk s o)) := rfl
theorem g_lex_letter_code_sh {R_o0 : List AOper} {R_c0 : ACode} {C : Ctx} {I : Nat → Prop} {s : Nat → V} {o : Nat → Option Ob} {Q : Ex → St → Prop} : wpB C I (.seq (.region [0] (some []) none
    [⟨some 2, .mv (.c (.d (.bool false))), [], [], none, none⟩])
 (.seq (.region [2] (some []) none
     (⟨some 3, .mv (.t 0), [], [], none, none⟩ ::
      ⟨some 4, .bin .geq (.t 3) (.c (.d (.int .u8 97))), [], [], none, none⟩ ::
      ⟨some 5, .mv (.t 4), [], [], none, (some ([0, 5], (some [])))⟩ ::
      R_o0))
  (R_c0))) (St.mk s o) Q =
 (demand (binV BinOp.geq (s 0) (V.d (.int .u8 97))) (fun x1 =>
opsB C I R_o0 (St.mk (look [(0, (s 0)), (5, x1)]) (looko ([].map fun n => (n, o n)))) (fun st => (seqK (fun st => wpB C I R_c0 st Q) Q) .normal (St.trim st [2] (some []))))) := rfl
theorem g_lex_one_1_o1_sh {C : Ctx} {I : Nat → Prop} {s : Nat → V} {o : Nat → Option Ob} {K : St → Prop} : opsB C I [⟨some 8, .pick (.t 5) (.c (.d (.bool true))) (.t 7), [], [], none, none⟩,
     ⟨some 2, .mv (.t 8), [], [], none, none⟩] (St.mk s o) K =
 (demand (pickV (s 5) (V.d (.bool true)) (s 7)) (fun x1 =>
K (St.mk (upd (upd s 8 x1) 2 x1) o))) := rfl
theorem g_lex_one_1_o0_sh {R_o1 : List AOper} {C : Ctx} {I : Nat → Prop} {s : Nat → V} {o : Nat → Option Ob} {K : St → Prop} : opsB C I (⟨some 6, .mv (.t 0), [], [], (some (2, 5, false)), none⟩ ::
     ⟨some 7, .call 107 [(.t 6)], [], [], (some (2, 5, false)), (some ([5, 7], (some [])))⟩ ::
     R_o1) (St.mk s o) K =
 (guardK (s 5) false
 (callK C I (St.mk (upd (upd (upd s 5 (V.d (D.bool false))) 6 (s 0)) 5 (V.d (D.bool false))) o) (some 7) 107 [(s 0)] (fun r1 or1 =>
opsB C I R_o1 (St.mk (look [(5, (V.d (D.bool false))), (7, r1)]) (looko ([].map fun n => (n, or1 n)))) K))
 (opsB C I R_o1 (St.mk (look [(5, (V.d (D.bool true))), (7, (V.tup []))]) (looko ([].map fun n => (n, o n)))) K)
 (opsB C I R_o1 (St.mk (look [(5, (V.tup [])), (7, (V.tup []))]) (looko ([].map fun n => (n, o n)))) K)) := rfl
theorem g_lex_one_1_c0_sh {C : Ctx} {I : Nat → Prop} {s : Nat → V} {o : Nat → Option Ob} {Q : Ex → St → Prop} : wpB C I (.ret) (St.mk s o) Q =
 (Q .ret (St.mk s o)) := rfl
theorem g_lex_one_1_code_sh {R_o0 : List AOper} {R_c0 : ACode} {C : Ctx} {I : Nat → Prop} {s : Nat → V} {o : Nat → Option Ob} {Q : Ex → St → Prop} : wpB C I (.seq (.region [0] (some []) none
    [⟨some 2, .mv (.c (.d (.bool false))), [], [], none, none⟩])
 (.seq (.region [2] (some []) none
     (⟨some 3, .mv (.t 0), [], [], none, none⟩ ::
      ⟨some 4, .call 105 [(.t 3)], [], [], none, none⟩ ::
      ⟨some 5, .mv (.t 4), [], [], none, (some ([0, 5], (some [])))⟩ ::
      R_o0))
  (R_c0))) (St.mk s o) Q =
 (callK C I (St.mk (upd (look [(0, (s 0))]) 3 (s 0)) (looko ([].map fun n => (n, o n)))) (some 4) 105 [(s 0)] (fun r1 or1 =>
opsB C I R_o0 (St.mk (look [(0, (s 0)), (5, r1)]) (looko ([].map fun n => (n, or1 n)))) (fun st => (seqK (fun st => wpB C I R_c0 st Q) Q) .normal (St.trim st [2] (some []))))) := rfl
theorem g_lex_digit_o1_sh {C : Ctx} {I : Nat → Prop} {s : Nat → V} {o : Nat → Option Ob} {K : St → Prop} : opsB C I [⟨some 8, .pick (.t 5) (.t 7) (.c (.d (.bool false))), [], [], none, none⟩,
     ⟨some 2, .mv (.t 8), [], [], none, none⟩] (St.mk s o) K =
 (demand (pickV (s 5) (s 7) (V.d (.bool false))) (fun x1 =>
K (St.mk (upd (upd s 8 x1) 2 x1) o))) := rfl
theorem g_lex_digit_o0_sh {R_o1 : List AOper} {C : Ctx} {I : Nat → Prop} {s : Nat → V} {o : Nat → Option Ob} {K : St → Prop} : opsB C I (⟨some 6, .mv (.t 0), [], [], (some (2, 5, true)), none⟩ ::
     ⟨some 7, .bin .leq (.t 6) (.c (.d (.int .u8 57))), [], [], (some (2, 5, true)), (some ([5, 7], (some [])))⟩ ::
     R_o1) (St.mk s o) K =
 (guardK (s 5) true
 (demand (binV BinOp.leq (s 0) (V.d (.int .u8 57))) (fun x1 =>
opsB C I R_o1 (St.mk (look [(5, (V.d (D.bool true))), (7, x1)]) (looko ([].map fun n => (n, o n)))) K))
 (opsB C I R_o1 (St.mk (look [(5, (V.d (D.bool false))), (7, (V.tup []))]) (looko ([].map fun n => (n, o n)))) K)
 (opsB C I R_o1 (St.mk (look [(5, (V.tup [])), (7, (V.tup []))]) (looko ([].map fun n => (n, o n)))) K)) := rfl
theorem g_lex_digit_c0_sh {C : Ctx} {I : Nat → Prop} {s : Nat → V} {o : Nat → Option Ob} {Q : Ex → St → Prop} : wpB C I (.ret) (St.mk s o) Q =
 (Q .ret (St.mk s o)) := rfl
theorem g_lex_digit_code_sh {R_o0 : List AOper} {R_c0 : ACode} {C : Ctx} {I : Nat → Prop} {s : Nat → V} {o : Nat → Option Ob} {Q : Ex → St → Prop} : wpB C I (.seq (.region [0] (some []) none
    [⟨some 2, .mv (.c (.d (.bool false))), [], [], none, none⟩])
 (.seq (.region [2] (some []) none
     (⟨some 3, .mv (.t 0), [], [], none, none⟩ ::
      ⟨some 4, .bin .geq (.t 3) (.c (.d (.int .u8 48))), [], [], none, none⟩ ::
      ⟨some 5, .mv (.t 4), [], [], none, (some ([0, 5], (some [])))⟩ ::
      R_o0))
  (R_c0))) (St.mk s o) Q =
 (demand (binV BinOp.geq (s 0) (V.d (.int .u8 48))) (fun x1 =>
opsB C I R_o0 (St.mk (look [(0, (s 0)), (5, x1)]) (looko ([].map fun n => (n, o n)))) (fun st => (seqK (fun st => wpB C I R_c0 st Q) Q) .normal (St.trim st [2] (some []))))) := rfl
theorem g_lex_one_2_o3_sh {C : Ctx} {I : Nat → Prop} {s : Nat → V} {o : Nat → Option Ob} {K : St → Prop} : opsB C I [⟨some 12, .pick (.t 9) (.c (.d (.bool true))) (.t 11), [], [], none, none⟩,
     ⟨some 2, .mv (.t 12), [], [], none, none⟩] (St.mk s o) K =
 (demand (pickV (s 9) (V.d (.bool true)) (s 11)) (fun x1 =>
K (St.mk (upd (upd s 12 x1) 2 x1) o))) := rfl
theorem g_lex_one_2_o2_sh {R_o3 : List AOper} {C : Ctx} {I : Nat → Prop} {s : Nat → V} {o : Nat → Option Ob} {K : St → Prop} : opsB C I (⟨some 10, .mv (.t 0), [], [], (some (6, 9, false)), none⟩ ::
     ⟨some 11, .bin .eql (.t 10) (.c (.d (.int .u8 37))), [], [], (some (6, 9, false)), (some ([9, 11], (some [])))⟩ ::
     R_o3) (St.mk s o) K =
 (guardK (s 9) false
 (demand (binV BinOp.eql (s 0) (V.d (.int .u8 37))) (fun x1 =>
opsB C I R_o3 (St.mk (look [(9, (V.d (D.bool false))), (11, x1)]) (looko ([].map fun n => (n, o n)))) K))
 (opsB C I R_o3 (St.mk (look [(9, (V.d (D.bool true))), (11, (V.tup []))]) (looko ([].map fun n => (n, o n)))) K)
 (opsB C I R_o3 (St.mk (look [(9, (V.tup [])), (11, (V.tup []))]) (looko ([].map fun n => (n, o n)))) K)) := rfl
theorem g_lex_one_2_o1_sh {R_o2 : List AOper} {C : Ctx} {I : Nat → Prop} {s : Nat → V} {o : Nat → Option Ob} {K : St → Prop} : opsB C I (⟨some 8, .pick (.t 5) (.c (.d (.bool true))) (.t 7), [], [], none, none⟩ ::
     ⟨some 9, .mv (.t 8), [], [], none, (some ([0, 9], (some [])))⟩ ::
     R_o2) (St.mk s o) K =
 (demand (pickV (s 5) (V.d (.bool true)) (s 7)) (fun x1 =>
opsB C I R_o2 (St.mk (look [(0, (s 0)), (9, x1)]) (looko ([].map fun n => (n, o n)))) K)) := rfl
theorem g_lex_one_2_o0_sh {R_o1 : List AOper} {C : Ctx} {I : Nat → Prop} {s : Nat → V} {o : Nat → Option Ob} {K : St → Prop} : opsB C I (⟨some 6, .mv (.t 0), [], [], (some (2, 5, false)), none⟩ ::
     ⟨some 7, .bin .eql (.t 6) (.c (.d (.int .u8 46))), [], [], (some (2, 5, false)), (some ([0, 5, 7], (some [])))⟩ ::
     R_o1) (St.mk s o) K =
 (guardK (s 5) false
 (demand (binV BinOp.eql (s 0) (V.d (.int .u8 46))) (fun x1 =>
opsB C I R_o1 (St.mk (look [(0, (s 0)), (5, (V.d (D.bool false))), (7, x1)]) (looko ([].map fun n => (n, o n)))) K))
 (opsB C I R_o1 (St.mk (look [(0, (s 0)), (5, (V.d (D.bool true))), (7, (V.tup []))]) (looko ([].map fun n => (n, o n)))) K)
 (opsB C I R_o1 (St.mk (look [(0, (s 0)), (5, (V.tup [])), (7, (V.tup []))]) (looko ([].map fun n => (n, o n)))) K)) := rfl
theorem g_lex_one_2_c0_sh {C : Ctx} {I : Nat → Prop} {s : Nat → V} {o : Nat → Option Ob} {Q : Ex → St → Prop} : wpB C I (.ret) (St.mk s o) Q =
 (Q .ret (St.mk s o)) := rfl
theorem g_lex_one_2_code_sh {R_o0 : List AOper} {R_c0 : ACode} {C : Ctx} {I : Nat → Prop} {s : Nat → V} {o : Nat → Option Ob} {Q : Ex → St → Prop} : wpB C I (.seq (.region [0] (some []) none
    [⟨some 2, .mv (.c (.d (.bool false))), [], [], none, none⟩])
 (.seq (.region [2] (some []) none
     (⟨some 3, .mv (.t 0), [], [], none, none⟩ ::
      ⟨some 4, .call 107 [(.t 3)], [], [], none, none⟩ ::
      ⟨some 5, .mv (.t 4), [], [], none, (some ([0, 5], (some [])))⟩ ::
      R_o0))
  (R_c0))) (St.mk s o) Q =
 (callK C I (St.mk (upd (look [(0, (s 0))]) 3 (s 0)) (looko ([].map fun n => (n, o n)))) (some 4) 107 [(s 0)] (fun r1 or1 =>
opsB C I R_o0 (St.mk (look [(0, (s 0)), (5, r1)]) (looko ([].map fun n => (n, or1 n)))) (fun st => (seqK (fun st => wpB C I R_c0 st Q) Q) .normal (St.trim st [2] (some []))))) := rfl
theorem g_lex_figure_c0_sh {C : Ctx} {I : Nat → Prop} {s : Nat → V} {o : Nat → Option Ob} {Q : Ex → St → Prop} : wpB C I (.seq (.region [0, 12] (some []) none
    [⟨some 12, .mv (.t 4), [], [], none, none⟩])
 (.cond (.t 12) (.seq (.region [2] (some []) none
      [⟨some 2, .mv (.c (.d (.int .i64 3))), [], [], none, none⟩])
   (.ret))
  (.skip))) (St.mk s o) Q =
 (condK (s 4)
 (Q .ret (St.mk (look [(2, (V.d (.int .i64 3)))]) (looko ([].map fun n => (n, o n)))))
 (Q .normal (St.mk (look [(0, (s 0)), (12, (s 4))]) (looko ([].map fun n => (n, o n)))))) := rfl
theorem g_lex_figure_c1_sh {C : Ctx} {I : Nat → Prop} {s : Nat → V} {o : Nat → Option Ob} {Q : Ex → St → Prop} : wpB C I (.seq (.region [0, 18] (some []) none
    [⟨some 18, .mv (.t 6), [], [], none, none⟩])
 (.cond (.t 18) (.seq (.region [2] (some []) none
      [⟨some 2, .mv (.c (.d (.int .i64 4))), [], [], none, none⟩])
   (.ret))
  (.skip))) (St.mk s o) Q =
 (condK (s 6)
 (Q .ret (St.mk (look [(2, (V.d (.int .i64 4)))]) (looko ([].map fun n => (n, o n)))))
 (Q .normal (St.mk (look [(0, (s 0)), (18, (s 6))]) (looko ([].map fun n => (n, o n)))))) := rfl
theorem g_lex_figure_o5_sh {C : Ctx} {I : Nat → Prop} {s : Nat → V} {o : Nat → Option Ob} {K : St → Prop} : opsB C I [⟨some 37, .pick (.t 29) (.t 36) (.c (.d (.bool false))), [], [], none, none⟩] (St.mk s o) K =
 (demand (pickV (s 29) (s 36) (V.d (.bool false))) (fun x1 =>
K (St.mk (upd s 37 x1) o))) := rfl
theorem g_lex_figure_o4_sh {R_o5 : List AOper} {C : Ctx} {I : Nat → Prop} {s : Nat → V} {o : Nat → Option Ob} {K : St → Prop} : opsB C I (⟨some 36, .pick (.t 32) (.c (.d (.bool true))) (.t 35), [], [], (some (10, 29, true)), (some ([29, 36], (some [])))⟩ ::
     R_o5) (St.mk s o) K =
 (guardK (s 29) true
 (demand (pickV (s 32) (V.d (.bool true)) (s 35)) (fun x1 =>
opsB C I R_o5 (St.mk (look [(29, (V.d (D.bool true))), (36, x1)]) (looko ([].map fun n => (n, o n)))) K))
 (opsB C I R_o5 (St.mk (look [(29, (V.d (D.bool false))), (36, (V.tup []))]) (looko ([].map fun n => (n, o n)))) K)
 (opsB C I R_o5 (St.mk (look [(29, (V.tup [])), (36, (V.tup []))]) (looko ([].map fun n => (n, o n)))) K)) := rfl
theorem g_lex_figure_o3_sh {R_o4 : List AOper} {C : Ctx} {I : Nat → Prop} {s : Nat → V} {o : Nat → Option Ob} {K : St → Prop} : opsB C I (⟨some 33, .mv (.t 0), [], [], (some (13, 32, false)), none⟩ ::
     ⟨some 34, .idx (.t 33) (.c (.d (.int .i64 0))), [], [], (some (13, 32, false)), none⟩ ::
     ⟨some 35, .bin .neq (.t 34) (.c (.d (.int .u8 48))), [], [], (some (13, 32, false)), (some ([29, 32, 35], (some [])))⟩ ::
     R_o4) (St.mk s o) K =
 (guardK (s 32) false
 (demand (idxV (s 0) (V.d (.int .i64 0))) (fun x1 =>
demand (binV BinOp.neq x1 (V.d (.int .u8 48))) (fun x2 =>
opsB C I R_o4 (St.mk (look [(29, (s 29)), (32, (V.d (D.bool false))), (35, x2)]) (looko ([].map fun n => (n, o n)))) K)))
 (opsB C I R_o4 (St.mk (look [(29, (s 29)), (32, (V.d (D.bool true))), (35, (V.tup []))]) (looko ([].map fun n => (n, o n)))) K)
 (opsB C I R_o4 (St.mk (look [(29, (s 29)), (32, (V.tup [])), (35, (V.tup []))]) (looko ([].map fun n => (n, o n)))) K)) := rfl
theorem g_lex_figure_o2_sh {R_o3 : List AOper} {C : Ctx} {I : Nat → Prop} {s : Nat → V} {o : Nat → Option Ob} {K : St → Prop} : opsB C I (⟨some 30, .mv (.t 0), [], [], (some (10, 29, true)), none⟩ ::
     ⟨some 31, .bin .eql (.t 30) (.c (.d (.str [48]))), [], [], (some (10, 29, true)), none⟩ ::
     ⟨some 32, .mv (.t 31), [], [], (some (10, 29, true)), (some ([0, 29, 32], (some [])))⟩ ::
     R_o3) (St.mk s o) K =
 (guardK (s 29) true
 (demand (binV BinOp.eql (s 0) (V.d (.str [48]))) (fun x1 =>
opsB C I R_o3 (St.mk (look [(0, (s 0)), (29, (V.d (D.bool true))), (32, x1)]) (looko ([].map fun n => (n, o n)))) K))
 (opsB C I R_o3 (St.mk (look [(0, (s 0)), (29, (V.d (D.bool false))), (32, (V.tup []))]) (looko ([].map fun n => (n, o n)))) K)
 (opsB C I R_o3 (St.mk (look [(0, (s 0)), (29, (V.tup [])), (32, (V.tup []))]) (looko ([].map fun n => (n, o n)))) K)) := rfl
theorem g_lex_figure_o1_sh {R_o2 : List AOper} {C : Ctx} {I : Nat → Prop} {s : Nat → V} {o : Nat → Option Ob} {K : St → Prop} : opsB C I (⟨some 28, .pick (.t 22) (.t 27) (.c (.d (.bool false))), [], [], none, none⟩ ::
     ⟨some 29, .mv (.t 28), [], [], none, (some ([0, 29], (some [])))⟩ ::
     R_o2) (St.mk s o) K =
 (demand (pickV (s 22) (s 27) (V.d (.bool false))) (fun x1 =>
opsB C I R_o2 (St.mk (look [(0, (s 0)), (29, x1)]) (looko ([].map fun n => (n, o n)))) K)) := rfl
theorem g_lex_figure_o0_sh {R_o1 : List AOper} {C : Ctx} {I : Nat → Prop} {s : Nat → V} {o : Nat → Option Ob} {K : St → Prop} : opsB C I (⟨some 23, .mv (.t 0), [], [], (some (3, 22, true)), none⟩ ::
     ⟨some 24, .call 102 [(.t 23), (.c (.d (.int .i64 0))), (.f 107)], [], [], (some (3, 22, true)), none⟩ ::
     ⟨some 25, .mv (.t 0), [], [], (some (3, 22, true)), none⟩ ::
     ⟨some 26, .lenS (.t 25), [], [], (some (3, 22, true)), none⟩ ::
     ⟨some 27, .bin .eql (.t 24) (.t 26), [], [], (some (3, 22, true)), (some ([0, 22, 27], (some [])))⟩ ::
     R_o1) (St.mk s o) K =
 (guardK (s 22) true
 (callK C I (St.mk (upd (upd (upd s 22 (V.d (D.bool true))) 23 (s 0)) 22 (V.d (D.bool true))) o) (some 24) 102 [(s 0), (V.d (.int .i64 0)), (V.fn 107 [])] (fun r1 or1 =>
demand (lenSV (s 0)) (fun x2 =>
demand (binV BinOp.eql r1 x2) (fun x3 =>
opsB C I R_o1 (St.mk (look [(0, (s 0)), (22, (V.d (D.bool true))), (27, x3)]) (looko ([].map fun n => (n, or1 n)))) K))))
 (opsB C I R_o1 (St.mk (look [(0, (s 0)), (22, (V.d (D.bool false))), (27, (V.tup []))]) (looko ([].map fun n => (n, o n)))) K)
 (opsB C I R_o1 (St.mk (look [(0, (s 0)), (22, (V.tup [])), (27, (V.tup []))]) (looko ([].map fun n => (n, o n)))) K)) := rfl
theorem g_lex_figure_c2_sh {C : Ctx} {I : Nat → Prop} {s : Nat → V} {o : Nat → Option Ob} {Q : Ex → St → Prop} : wpB C I (.cond (.t 37) (.seq (.region [2] (some []) none
     [⟨some 2, .mv (.c (.d (.int .i64 2))), [], [], none, none⟩])
  (.ret))
 (.skip)) (St.mk s o) Q =
 (condK (s 37)
 (Q .ret (St.mk (look [(2, (V.d (.int .i64 2)))]) (looko ([].map fun n => (n, o n)))))
 (Q .normal (St.mk s o))) := rfl
theorem g_lex_figure_c3_sh {C : Ctx} {I : Nat → Prop} {s : Nat → V} {o : Nat → Option Ob} {Q : Ex → St → Prop} : wpB C I (.seq (.region [2] (some []) none
    [⟨some 2, .mv (.c (.d (.int .i64 0))), [], [], none, none⟩])
 (.ret)) (St.mk s o) Q =
 (Q .ret (St.mk (look [(2, (V.d (.int .i64 0)))]) (looko ([].map fun n => (n, o n))))) := rfl
theorem g_lex_figure_c4_sh {R_o0 : List AOper} {R_c2 : ACode} {R_c3 : ACode} {C : Ctx} {I : Nat → Prop} {s : Nat → V} {o : Nat → Option Ob} {Q : Ex → St → Prop} : wpB C I (.seq (.seq (.region [37] (some []) none
     (⟨some 19, .mv (.t 0), [], [], none, none⟩ ::
      ⟨some 20, .lenS (.t 19), [], [], none, none⟩ ::
      ⟨some 21, .bin .leq (.t 20) (.c (.d (.int .i64 9))), [], [], none, none⟩ ::
      ⟨some 22, .mv (.t 21), [], [], none, (some ([0, 22], (some [])))⟩ ::
      R_o0))
  (R_c2))
 (R_c3)) (St.mk s o) Q =
 (demand (lenSV (s 0)) (fun x1 =>
demand (binV BinOp.leq x1 (V.d (.int .i64 9))) (fun x2 =>
opsB C I R_o0 (St.mk (look [(0, (s 0)), (22, x2)]) (looko ([].map fun n => (n, o n)))) (fun st => (seqK (fun st => wpB C I R_c2 st (seqK (fun st => wpB C I R_c3 st Q) Q)) (seqK (fun st => wpB C I R_c3 st Q) Q)) .normal (St.trim st [37] (some [])))))) := rfl
theorem g_lex_figure_c5_sh {R_c1 : ACode} {R_c4 : ACode} {C : Ctx} {I : Nat → Prop} {s : Nat → V} {o : Nat → Option Ob} {Q : Ex → St → Prop} : wpB C I (.seq (.seq (.region [0, 6] (some []) none
     [⟨some 14, .mv (.t 0), [], [], none, none⟩,
      ⟨some 15, .call 92 [(.t 14)], [], [], none, none⟩,
      ⟨some 13, .mv (.t 15), [], [], none, none⟩,
      ⟨some 16, .ext (.t 13) 0, [], [], none, none⟩,
      ⟨some 17, .ext (.t 13) 1, [], [], none, none⟩,
      ⟨some 5, .mv (.t 16), [], [], none, none⟩,
      ⟨some 6, .mv (.t 17), [], [], none, none⟩])
  (R_c1))
 (R_c4)) (St.mk s o) Q =
 (callK C I (St.mk (upd s 14 (s 0)) o) (some 15) 92 [(s 0)] (fun r1 or1 =>
demand (extV r1 0) (fun x2 =>
demand (extV r1 1) (fun x3 =>
wpB C I R_c1 (St.mk (look [(0, (s 0)), (6, x3)]) (looko ([].map fun n => (n, or1 n)))) (seqK (fun st => wpB C I R_c4 st Q) Q))))) := rfl
theorem g_lex_figure_code_sh {R_c0 : ACode} {R_c5 : ACode} {C : Ctx} {I : Nat → Prop} {s : Nat → V} {o : Nat → Option Ob} {Q : Ex → St → Prop} : wpB C I (.seq (.region [0] (some []) none
    [⟨some 2, .mv (.c (.d (.int .i64 0))), [], [], none, none⟩])
 (.seq (.seq (.region [0, 4] (some []) none
      [⟨some 8, .mv (.t 0), [], [], none, none⟩,
       ⟨some 9, .call 51 [(.t 8)], [], [], none, none⟩,
       ⟨some 7, .mv (.t 9), [], [], none, none⟩,
       ⟨some 10, .ext (.t 7) 0, [], [], none, none⟩,
       ⟨some 11, .ext (.t 7) 1, [], [], none, none⟩,
       ⟨some 3, .mv (.t 10), [], [], none, none⟩,
       ⟨some 4, .mv (.t 11), [], [], none, none⟩])
   (R_c0))
  (R_c5))) (St.mk s o) Q =
 (callK C I (St.mk (upd (look [(0, (s 0))]) 8 (s 0)) (looko ([].map fun n => (n, o n)))) (some 9) 51 [(s 0)] (fun r1 or1 =>
demand (extV r1 0) (fun x2 =>
demand (extV r1 1) (fun x3 =>
wpB C I R_c0 (St.mk (look [(0, (s 0)), (4, x3)]) (looko ([].map fun n => (n, or1 n)))) (seqK (fun st => wpB C I R_c5 st Q) Q))))) := rfl
theorem g_lex_sign_c0_sh {C : Ctx} {I : Nat → Prop} {s : Nat → V} {o : Nat → Option Ob} {Q : Ex → St → Prop} : wpB C I (.region [0, 5, 6, 7] (some []) none
   [⟨some 16, .bin .add (.t 7) (.c (.d (.int .i64 1))), [], [], none, none⟩,
    ⟨some 7, .mv (.t 16), [], [], none, none⟩]) (St.mk s o) Q =
 (demand (binV BinOp.add (s 7) (V.d (.int .i64 1))) (fun x1 =>
Q .normal (St.mk (look [(0, (s 0)), (5, (s 5)), (6, (s 6)), (7, x1)]) (looko ([].map fun n => (n, o n)))))) := rfl
theorem g_lex_sign_l0_sh {R_l0 : ACode} {R_c0 : ACode} {C : Ctx} {I : Nat → Prop} {s : Nat → V} {o : Nat → Option Ob} {Q : Ex → St → Prop} (hL : R_l0 = .loop [0, 5, 6, 7] (some []) (.seq (.region [0, 5, 6, 7, 8] (some []) none
     [⟨some 8, .bin .lss (.t 7) (.t 6), [], [], none, none⟩])
  (.seq (.cond (.t 8) (.skip)
    (.exit 0))
   (.seq (.block 1 [0, 5, 6, 7] (some []) (.seq (.region [0, 4, 5, 6, 7] (some []) none
         [⟨some 9, .iaddr 1 (.t 5) (.t 7), [], [], none, none⟩,
          ⟨some 10, .load none (.t 9), [], [], none, none⟩,
          ⟨some 4, .mv (.t 10), [], [], none, none⟩])
      (.seq (.region [0, 4, 5, 6, 7, 13] (some []) none
          [⟨some 11, .mv (.t 0), [], [], none, none⟩,
           ⟨some 12, .mv (.t 4), [], [], none, none⟩,
           ⟨some 13, .call 123 [(.t 11), (.t 12)], [], [], none, none⟩])
       (.cond (.t 13) (.seq (.region [2] (some []) none
            [⟨some 14, .mv (.t 4), [], [], none, none⟩,
             ⟨some 15, .lenS (.t 14), [], [], none, none⟩,
             ⟨some 2, .mv (.t 15), [], [], none, none⟩])
         (.ret))
        (.skip)))))
    (R_c0)))))
 (h : demand (binV BinOp.lss (s 7) (s 6)) (fun x1 =>
condK x1
 (demand (iaddrV (looko ([].map fun n => (n, o n))) 1 (s 5) (s 7)) (fun x2 =>
demand (loadV (looko ([].map fun n => (n, o n))) none x2) (fun x3 =>
callK C I (St.mk (upd (upd (look [(0, (s 0)), (4, x3), (5, (s 5)), (6, (s 6)), (7, (s 7))]) 11 (s 0)) 12 x3) (looko ([].map fun n => (n, o n)))) (some 13) 123 [(s 0), x3] (fun r4 or4 =>
condK r4
 (demand (lenSV x3) (fun x5 =>
Q .ret (St.mk (look [(2, x5)]) (looko ([].map fun n => (n, or4 n))))))
 (wpB C I R_c0 (St.mk (look [(0, (s 0)), (5, (s 5)), (6, (s 6)), (7, (s 7))]) (looko ([].map fun n => (n, or4 n)))) (seqK (fun s => wpB C I R_l0 s Q) Q))))))
 (Q (.exit 0) (St.mk (look [(0, (s 0)), (5, (s 5)), (6, (s 6)), (7, (s 7)), (8, x1)]) (looko ([].map fun n => (n, o n))))))) : wpB C I R_l0 (St.mk s o) Q := w_loopC hL h
theorem g_lex_sign_c1_sh {C : Ctx} {I : Nat → Prop} {s : Nat → V} {o : Nat → Option Ob} {Q : Ex → St → Prop} : wpB C I (.seq (.region [2] (some []) none
    [⟨some 2, .mv (.c (.d (.int .i64 0))), [], [], none, none⟩])
 (.ret)) (St.mk s o) Q =
 (Q .ret (St.mk (look [(2, (V.d (.int .i64 0)))]) (looko ([].map fun n => (n, o n))))) := rfl
theorem g_lex_sign_c2_sh {R_c1 : ACode} {C : Ctx} {I : Nat → Prop} {s : Nat → V} {o : Nat → Option Ob} {Q : Ex → St → Prop} : wpB C I (.seq (.seq (.region [20] (some []) none
     [⟨some 17, .mv (.t 0), [], [], none, none⟩,
      ⟨some 18, .idx (.t 17) (.c (.d (.int .i64 0))), [], [], none, none⟩,
      ⟨some 19, .call 124 [(.c (.d (.str [61, 60, 62, 43, 45, 42, 40, 41, 44, 59]))), (.t 18)], [], [], none, none⟩,
      ⟨some 20, .bin .geq (.t 19) (.c (.d (.int .i64 0))), [], [], none, none⟩])
  (.cond (.t 20) (.seq (.region [2] (some []) none
       [⟨some 2, .mv (.c (.d (.int .i64 1))), [], [], none, none⟩])
    (.ret))
   (.skip)))
 (R_c1)) (St.mk s o) Q =
 (demand (idxV (s 0) (V.d (.int .i64 0))) (fun x1 =>
callK C I (St.mk (upd (upd s 17 (s 0)) 18 x1) o) (some 19) 124 [(V.d (.str [61, 60, 62, 43, 45, 42, 40, 41, 44, 59])), x1] (fun r2 or2 =>
demand (binV BinOp.geq r2 (V.d (.int .i64 0))) (fun x3 =>
condK x3
 (Q .ret (St.mk (look [(2, (V.d (.int .i64 1)))]) (looko ([].map fun n => (n, or2 n)))))
 (wpB C I R_c1 (St.mk (look [(20, x3)]) (looko ([].map fun n => (n, or2 n)))) Q))))) := rfl
theorem g_lex_sign_code_sh {R_l0 : ACode} {R_c2 : ACode} {C : Ctx} {I : Nat → Prop} {s : Nat → V} {o : Nat → Option Ob} {Q : Ex → St → Prop} : wpB C I (.seq (.region [0] (some []) none
    [⟨some 2, .mv (.c (.d (.int .i64 0))), [], [], none, none⟩])
 (.seq (.seq (.region [0, 5, 6, 7] (some []) none
      [⟨some 5, .bsl none 1 [] 3 [(0, (.c (.d (.str [60, 61])))), (1, (.c (.d (.str [62, 61])))), (2, (.c (.d (.str [60, 62]))))], [], [], none, none⟩,
       ⟨some 6, .len (.t 5), [], [], none, none⟩,
       ⟨some 7, .mv (.c (.d (.int .i64 0))), [], [], none, none⟩])
   (.block 0 [0] (some []) (R_l0)))
  (R_c2))) (St.mk s o) Q =
 (lstK (partsN 1 [(V.d (.str [60, 61])), (V.d (.str [62, 61])), (V.d (.str [60, 62]))]) (fun es1 =>
demand (lenV (looko ([].map fun n => (n, o n))) (V.d (D.sl es1))) (fun x2 =>
wpB C I R_l0 (St.mk (look [(0, (s 0)), (5, (V.d (D.sl es1))), (6, x2), (7, (V.d (.int .i64 0)))]) (looko ([].map fun n => (n, o n)))) (blockK 0 [0] (some []) (seqK (fun st => wpB C I R_c2 st Q) Q))))) := rfl
theorem g_ref01_Parse_o1_sh {C : Ctx} {I : Nat → Prop} {s : Nat → V} {o : Nat → Option Ob} {K : St → Prop} : opsB C I [⟨some 18, .pick (.t 14) (.t 17) (.c (.d (.bool false))), [], [], none, none⟩] (St.mk s o) K =
 (demand (pickV (s 14) (s 17) (V.d (.bool false))) (fun x1 =>
K (St.mk (upd s 18 x1) o))) := rfl
theorem g_ref01_Parse_o0_sh {R_o1 : List AOper} {C : Ctx} {I : Nat → Prop} {s : Nat → V} {o : Nat → Option Ob} {K : St → Prop} : opsB C I (⟨some 15, .mv (.t 4), [], [], (some (3, 14, true)), none⟩ ::
     ⟨some 16, .idx (.t 15) (.c (.d (.int .i64 0))), [], [], (some (3, 14, true)), none⟩ ::
     ⟨some 17, .bin .eql (.t 16) (.c (.d (.int .u8 45))), [], [], (some (3, 14, true)), (some ([0, 4, 5, 14, 17], (some [])))⟩ ::
     R_o1) (St.mk s o) K =
 (guardK (s 14) true
 (demand (idxV (s 4) (V.d (.int .i64 0))) (fun x1 =>
demand (binV BinOp.eql x1 (V.d (.int .u8 45))) (fun x2 =>
opsB C I R_o1 (St.mk (look [(0, (s 0)), (4, (s 4)), (5, (s 5)), (14, (V.d (D.bool true))), (17, x2)]) (looko ([].map fun n => (n, o n)))) K)))
 (opsB C I R_o1 (St.mk (look [(0, (s 0)), (4, (s 4)), (5, (s 5)), (14, (V.d (D.bool false))), (17, (V.tup []))]) (looko ([].map fun n => (n, o n)))) K)
 (opsB C I R_o1 (St.mk (look [(0, (s 0)), (4, (s 4)), (5, (s 5)), (14, (V.tup [])), (17, (V.tup []))]) (looko ([].map fun n => (n, o n)))) K)) := rfl
theorem g_ref01_Parse_c0_sh {C : Ctx} {I : Nat → Prop} {s : Nat → V} {o : Nat → Option Ob} {Q : Ex → St → Prop} : wpB C I (.cond (.t 18) (.region [0, 4, 5] (some []) none
    [⟨some 19, .mv (.t 4), [], [], none, none⟩,
     ⟨some 20, .slcS (.t 19) (some (.c (.d (.int .i64 1)))) none, [], [], none, none⟩,
     ⟨some 4, .mv (.t 20), [], [], none, none⟩,
     ⟨some 5, .mv (.c (.d (.bool true))), [], [], none, none⟩])
 (.skip)) (St.mk s o) Q =
 (condK (s 18)
 (demand (slcSV (s 4) (some (V.d (.int .i64 1))) none) (fun x1 =>
Q .normal (St.mk (look [(0, (s 0)), (4, x1), (5, (V.d (.bool true)))]) (looko ([].map fun n => (n, o n))))))
 (Q .normal (St.mk s o))) := rfl
theorem g_ref01_Parse_o3_sh {C : Ctx} {I : Nat → Prop} {s : Nat → V} {o : Nat → Option Ob} {K : St → Prop} : opsB C I [⟨some 42, .pick (.t 39) (.c (.d (.bool true))) (.t 41), [], [], none, none⟩] (St.mk s o) K =
 (demand (pickV (s 39) (V.d (.bool true)) (s 41)) (fun x1 =>
K (St.mk (upd s 42 x1) o))) := rfl
theorem g_ref01_Parse_o2_sh {R_o3 : List AOper} {C : Ctx} {I : Nat → Prop} {s : Nat → V} {o : Nat → Option Ob} {K : St → Prop} : opsB C I (⟨some 40, .mv (.t 8), [], [], (some (2, 39, false)), none⟩ ::
     ⟨some 41, .bin .gtr (.t 40) (.c (.d (.int .u8 57))), [], [], (some (2, 39, false)), (some ([0, 4, 5, 6, 7, 8, 39, 41], (some [])))⟩ ::
     R_o3) (St.mk s o) K =
 (guardK (s 39) false
 (demand (binV BinOp.gtr (s 8) (V.d (.int .u8 57))) (fun x1 =>
opsB C I R_o3 (St.mk (look [(0, (s 0)), (4, (s 4)), (5, (s 5)), (6, (s 6)), (7, (s 7)), (8, (s 8)), (39, (V.d (D.bool false))), (41, x1)]) (looko ([].map fun n => (n, o n)))) K))
 (opsB C I R_o3 (St.mk (look [(0, (s 0)), (4, (s 4)), (5, (s 5)), (6, (s 6)), (7, (s 7)), (8, (s 8)), (39, (V.d (D.bool true))), (41, (V.tup []))]) (looko ([].map fun n => (n, o n)))) K)
 (opsB C I R_o3 (St.mk (look [(0, (s 0)), (4, (s 4)), (5, (s 5)), (6, (s 6)), (7, (s 7)), (8, (s 8)), (39, (V.tup [])), (41, (V.tup []))]) (looko ([].map fun n => (n, o n)))) K)) := rfl
theorem g_ref01_Parse_c1_sh {C : Ctx} {I : Nat → Prop} {s : Nat → V} {o : Nat → Option Ob} {Q : Ex → St → Prop} : wpB C I (.cond (.t 42) (.seq (.region [2, 3] (some []) none
     [⟨some 2, .mv (.c (.d (.int .i64 0))), [], [], none, none⟩,
      ⟨some 3, .mv (.c (.d (.bool false))), [], [], none, none⟩])
  (.ret))
 (.skip)) (St.mk s o) Q =
 (condK (s 42)
 (Q .ret (St.mk (look [(2, (V.d (.int .i64 0))), (3, (V.d (.bool false)))]) (looko ([].map fun n => (n, o n)))))
 (Q .normal (St.mk s o))) := rfl
theorem g_ref01_Parse_c2_sh {C : Ctx} {I : Nat → Prop} {s : Nat → V} {o : Nat → Option Ob} {Q : Ex → St → Prop} : wpB C I (.region [0, 4, 5, 6, 7] (some []) none
   [⟨some 51, .mv (.t 6), [], [], none, none⟩,
    ⟨some 52, .bin .mul (.c (.d (.int .i64 10))) (.t 51), [], [], none, none⟩,
    ⟨some 53, .mv (.t 9), [], [], none, none⟩,
    ⟨some 54, .bin .add (.t 52) (.t 53), [], [], none, none⟩,
    ⟨some 6, .mv (.t 54), [], [], none, none⟩]) (St.mk s o) Q =
 (demand (binV BinOp.mul (V.d (.int .i64 10)) (s 6)) (fun x1 =>
demand (binV BinOp.add x1 (s 9)) (fun x2 =>
Q .normal (St.mk (look [(0, (s 0)), (4, (s 4)), (5, (s 5)), (6, x2), (7, (s 7))]) (looko ([].map fun n => (n, o n))))))) := rfl
theorem g_ref01_Parse_c3_sh {R_c2 : ACode} {C : Ctx} {I : Nat → Prop} {s : Nat → V} {o : Nat → Option Ob} {Q : Ex → St → Prop} : wpB C I (.seq (.seq (.region [0, 4, 5, 6, 7, 9, 50] (some []) none
     [⟨some 46, .mv (.t 6), [], [], none, none⟩,
      ⟨some 47, .mv (.t 9), [], [], none, none⟩,
      ⟨some 48, .bin .sub (.c (.d (.int .i64 9223372036854775807))) (.t 47), [], [], none, none⟩,
      ⟨some 49, .bin .quo (.t 48) (.c (.d (.int .i64 10))), [], [], none, none⟩,
      ⟨some 50, .bin .gtr (.t 46) (.t 49), [], [], none, none⟩])
  (.cond (.t 50) (.seq (.region [2, 3] (some []) none
       [⟨some 2, .mv (.c (.d (.int .i64 0))), [], [], none, none⟩,
        ⟨some 3, .mv (.c (.d (.bool false))), [], [], none, none⟩])
    (.ret))
   (.skip)))
 (R_c2)) (St.mk s o) Q =
 (demand (binV BinOp.sub (V.d (.int .i64 9223372036854775807)) (s 9)) (fun x1 =>
demand (binV BinOp.quo x1 (V.d (.int .i64 10))) (fun x2 =>
demand (binV BinOp.gtr (s 6) x2) (fun x3 =>
condK x3
 (Q .ret (St.mk (look [(2, (V.d (.int .i64 0))), (3, (V.d (.bool false)))]) (looko ([].map fun n => (n, o n)))))
 (wpB C I R_c2 (St.mk (look [(0, (s 0)), (4, (s 4)), (5, (s 5)), (6, (s 6)), (7, (s 7)), (9, (s 9)), (50, x3)]) (looko ([].map fun n => (n, o n)))) Q))))) := rfl
theorem g_ref01_Parse_c4_sh {R_c3 : ACode} {C : Ctx} {I : Nat → Prop} {s : Nat → V} {o : Nat → Option Ob} {Q : Ex → St → Prop} : wpB C I (.seq (.region [0, 4, 5, 6, 7, 9] (some []) none
    [⟨some 43, .mv (.t 8), [], [], none, none⟩,
     ⟨some 44, .bin .sub (.t 43) (.c (.d (.int .u8 48))), [], [], none, none⟩,
     ⟨some 45, .conv .i64 (.t 44), [], [], none, none⟩,
     ⟨some 9, .mv (.t 45), [], [], none, none⟩])
 (R_c3)) (St.mk s o) Q =
 (demand (binV BinOp.sub (s 8) (V.d (.int .u8 48))) (fun x1 =>
demand (convV IntKind.i64 x1) (fun x2 =>
wpB C I R_c3 (St.mk (look [(0, (s 0)), (4, (s 4)), (5, (s 5)), (6, (s 6)), (7, (s 7)), (9, x2)]) (looko ([].map fun n => (n, o n)))) Q))) := rfl
theorem g_ref01_Parse_c5_sh {R_o2 : List AOper} {R_c1 : ACode} {R_c4 : ACode} {C : Ctx} {I : Nat → Prop} {s : Nat → V} {o : Nat → Option Ob} {Q : Ex → St → Prop} : wpB C I (.seq (.seq (.region [0, 4, 5, 6, 7, 8, 42] (some []) none
     (⟨some 37, .mv (.t 8), [], [], none, none⟩ ::
      ⟨some 38, .bin .lss (.t 37) (.c (.d (.int .u8 48))), [], [], none, none⟩ ::
      ⟨some 39, .mv (.t 38), [], [], none, (some ([0, 4, 5, 6, 7, 8, 39], (some [])))⟩ ::
      R_o2))
  (R_c1))
 (R_c4)) (St.mk s o) Q =
 (demand (binV BinOp.lss (s 8) (V.d (.int .u8 48))) (fun x1 =>
opsB C I R_o2 (St.mk (look [(0, (s 0)), (4, (s 4)), (5, (s 5)), (6, (s 6)), (7, (s 7)), (8, (s 8)), (39, x1)]) (looko ([].map fun n => (n, o n)))) (fun st => (seqK (fun st => wpB C I R_c1 st (seqK (fun st => wpB C I R_c4 st Q) Q)) (seqK (fun st => wpB C I R_c4 st Q) Q)) .normal (St.trim st [0, 4, 5, 6, 7, 8, 42] (some []))))) := rfl
theorem g_ref01_Parse_c6_sh {R_c5 : ACode} {C : Ctx} {I : Nat → Prop} {s : Nat → V} {o : Nat → Option Ob} {Q : Ex → St → Prop} : wpB C I (.seq (.seq (.region [0, 4, 5, 6, 7, 8, 34] (some []) none
     [⟨some 30, .mv (.t 7), [], [], none, none⟩,
      ⟨some 31, .mv (.t 4), [], [], none, none⟩,
      ⟨some 32, .lenS (.t 31), [], [], none, none⟩,
      ⟨some 33, .bin .sub (.t 32) (.c (.d (.int .i64 3))), [], [], none, none⟩,
      ⟨some 34, .bin .eql (.t 30) (.t 33), [], [], none, none⟩])
  (.cond (.t 34) (.seq (.seq (.region [0, 4, 5, 6, 7, 36] (some []) none
        [⟨some 35, .mv (.t 8), [], [], none, none⟩,
         ⟨some 36, .bin .neq (.t 35) (.c (.d (.int .u8 46))), [], [], none, none⟩])
     (.cond (.t 36) (.seq (.region [2, 3] (some []) none
          [⟨some 2, .mv (.c (.d (.int .i64 0))), [], [], none, none⟩,
           ⟨some 3, .mv (.c (.d (.bool false))), [], [], none, none⟩])
       (.ret))
      (.skip)))
    (.exit 1))
   (.skip)))
 (R_c5)) (St.mk s o) Q =
 (demand (lenSV (s 4)) (fun x1 =>
demand (binV BinOp.sub x1 (V.d (.int .i64 3))) (fun x2 =>
demand (binV BinOp.eql (s 7) x2) (fun x3 =>
condK x3
 (demand (binV BinOp.neq (s 8) (V.d (.int .u8 46))) (fun x4 =>
condK x4
 (Q .ret (St.mk (look [(2, (V.d (.int .i64 0))), (3, (V.d (.bool false)))]) (looko ([].map fun n => (n, o n)))))
 (Q (.exit 1) (St.mk (look [(0, (s 0)), (4, (s 4)), (5, (s 5)), (6, (s 6)), (7, (s 7)), (36, x4)]) (looko ([].map fun n => (n, o n)))))))
 (wpB C I R_c5 (St.mk (look [(0, (s 0)), (4, (s 4)), (5, (s 5)), (6, (s 6)), (7, (s 7)), (8, (s 8)), (34, x3)]) (looko ([].map fun n => (n, o n)))) Q))))) := rfl
theorem g_ref01_Parse_c7_sh {C : Ctx} {I : Nat → Prop} {s : Nat → V} {o : Nat → Option Ob} {Q : Ex → St → Prop} : wpB C I (.region [0, 4, 5, 6, 7] (some []) none
   [⟨some 25, .mv (.t 7), [], [], none, none⟩,
    ⟨some 26, .bin .add (.t 25) (.c (.d (.int .i64 1))), [], [], none, none⟩,
    ⟨some 7, .mv (.t 26), [], [], none, none⟩]) (St.mk s o) Q =
 (demand (binV BinOp.add (s 7) (V.d (.int .i64 1))) (fun x1 =>
Q .normal (St.mk (look [(0, (s 0)), (4, (s 4)), (5, (s 5)), (6, (s 6)), (7, x1)]) (looko ([].map fun n => (n, o n)))))) := rfl
theorem g_ref01_Parse_c8_sh {R_c6 : ACode} {R_c7 : ACode} {C : Ctx} {I : Nat → Prop} {s : Nat → V} {o : Nat → Option Ob} {Q : Ex → St → Prop} : wpB C I (.seq (.block 1 [0, 4, 5, 6, 7] (some []) (.seq (.region [0, 4, 5, 6, 7, 8] (some []) none
      [⟨some 27, .mv (.t 4), [], [], none, none⟩,
       ⟨some 28, .mv (.t 7), [], [], none, none⟩,
       ⟨some 29, .idx (.t 27) (.t 28), [], [], none, none⟩,
       ⟨some 8, .mv (.t 29), [], [], none, none⟩])
   (R_c6)))
 (R_c7)) (St.mk s o) Q =
 (demand (idxV (s 4) (s 7)) (fun x1 =>
wpB C I R_c6 (St.mk (look [(0, (s 0)), (4, (s 4)), (5, (s 5)), (6, (s 6)), (7, (s 7)), (8, x1)]) (looko ([].map fun n => (n, o n)))) (blockK 1 [0, 4, 5, 6, 7] (some []) (seqK (fun st => wpB C I R_c7 st Q) Q)))) := rfl
theorem g_ref01_Parse_l0_sh {R_l0 : ACode} {R_c8 : ACode} {C : Ctx} {I : Nat → Prop} {s : Nat → V} {o : Nat → Option Ob} {Q : Ex → St → Prop} (hL : R_l0 = .loop [0, 4, 5, 6, 7] (some []) (.seq (.seq (.region [0, 4, 5, 6, 7, 24] (some []) none
      [⟨some 21, .mv (.t 7), [], [], none, none⟩,
       ⟨some 22, .mv (.t 4), [], [], none, none⟩,
       ⟨some 23, .lenS (.t 22), [], [], none, none⟩,
       ⟨some 24, .bin .lss (.t 21) (.t 23), [], [], none, none⟩])
   (.cond (.t 24) (.skip)
    (.exit 0)))
  (R_c8)))
 (h : demand (lenSV (s 4)) (fun x1 =>
demand (binV BinOp.lss (s 7) x1) (fun x2 =>
condK x2
 (wpB C I R_c8 (St.mk (look [(0, (s 0)), (4, (s 4)), (5, (s 5)), (6, (s 6)), (7, (s 7)), (24, x2)]) (looko ([].map fun n => (n, o n)))) (seqK (fun s => wpB C I R_l0 s Q) Q))
 (Q (.exit 0) (St.mk (look [(0, (s 0)), (4, (s 4)), (5, (s 5)), (6, (s 6)), (7, (s 7)), (24, x2)]) (looko ([].map fun n => (n, o n)))))))) : wpB C I R_l0 (St.mk s o) Q := w_loopC hL h
theorem g_ref01_Parse_o5_sh {C : Ctx} {I : Nat → Prop} {s : Nat → V} {o : Nat → Option Ob} {K : St → Prop} : opsB C I [⟨some 67, .pick (.t 62) (.t 66) (.c (.d (.bool false))), [], [], none, none⟩,
     ⟨some 2, .mv (.t 58), [], [], none, none⟩,
     ⟨some 3, .mv (.t 67), [], [], none, none⟩] (St.mk s o) K =
 (demand (pickV (s 62) (s 66) (V.d (.bool false))) (fun x1 =>
K (St.mk (upd (upd (upd s 67 x1) 2 (s 58)) 3 x1) o))) := rfl
theorem g_ref01_Parse_o4_sh {R_o5 : List AOper} {C : Ctx} {I : Nat → Prop} {s : Nat → V} {o : Nat → Option Ob} {K : St → Prop} : opsB C I (⟨some 63, .mv (.t 6), [], [], (some (4, 62, true)), none⟩ ::
     ⟨some 64, .call 54 [(.t 63)], [], [], (some (4, 62, true)), none⟩ ::
     ⟨some 65, .mv (.t 0), [], [], (some (4, 62, true)), none⟩ ::
     ⟨some 66, .bin .eql (.t 64) (.t 65), [], [], (some (4, 62, true)), (some ([58, 62, 66], (some [])))⟩ ::
     R_o5) (St.mk s o) K =
 (guardK (s 62) true
 (callK C I (St.mk (upd (upd (upd s 62 (V.d (D.bool true))) 63 (s 6)) 62 (V.d (D.bool true))) o) (some 64) 54 [(s 6)] (fun r1 or1 =>
demand (binV BinOp.eql r1 (s 0)) (fun x2 =>
opsB C I R_o5 (St.mk (look [(58, (s 58)), (62, (V.d (D.bool true))), (66, x2)]) (looko ([].map fun n => (n, or1 n)))) K)))
 (opsB C I R_o5 (St.mk (look [(58, (s 58)), (62, (V.d (D.bool false))), (66, (V.tup []))]) (looko ([].map fun n => (n, o n)))) K)
 (opsB C I R_o5 (St.mk (look [(58, (s 58)), (62, (V.tup [])), (66, (V.tup []))]) (looko ([].map fun n => (n, o n)))) K)) := rfl
theorem g_ref01_Parse_c9_sh {C : Ctx} {I : Nat → Prop} {s : Nat → V} {o : Nat → Option Ob} {Q : Ex → St → Prop} : wpB C I (.ret) (St.mk s o) Q =
 (Q .ret (St.mk s o)) := rfl
theorem g_ref01_Parse_c10_sh {R_o4 : List AOper} {R_c9 : ACode} {C : Ctx} {I : Nat → Prop} {s : Nat → V} {o : Nat → Option Ob} {Q : Ex → St → Prop} : wpB C I (.seq (.region [2, 3] (some []) none
    (⟨some 58, .mv (.t 6), [], [], none, none⟩ ::
     ⟨some 59, .mv (.t 4), [], [], none, none⟩ ::
     ⟨some 60, .lenS (.t 59), [], [], none, none⟩ ::
     ⟨some 61, .bin .geq (.t 60) (.c (.d (.int .i64 4))), [], [], none, none⟩ ::
     ⟨some 62, .mv (.t 61), [], [], none, (some ([0, 6, 58, 62], (some [])))⟩ ::
     R_o4))
 (R_c9)) (St.mk s o) Q =
 (demand (lenSV (s 4)) (fun x1 =>
demand (binV BinOp.geq x1 (V.d (.int .i64 4))) (fun x2 =>
opsB C I R_o4 (St.mk (look [(0, (s 0)), (6, (s 6)), (58, (s 6)), (62, x2)]) (looko ([].map fun n => (n, o n)))) (fun st => (seqK (fun st => wpB C I R_c9 st Q) Q) .normal (St.trim st [2, 3] (some [])))))) := rfl
theorem g_ref01_Parse_c11_sh {R_c10 : ACode} {C : Ctx} {I : Nat → Prop} {s : Nat → V} {o : Nat → Option Ob} {Q : Ex → St → Prop} : wpB C I (.seq (.seq (.region [0, 4, 6, 55] (some []) none
     [⟨some 55, .mv (.t 5), [], [], none, none⟩])
  (.cond (.t 55) (.region [0, 4, 6] (some []) none
      [⟨some 56, .mv (.t 6), [], [], none, none⟩,
       ⟨some 57, .un .neg (.t 56), [], [], none, none⟩,
       ⟨some 6, .mv (.t 57), [], [], none, none⟩])
   (.skip)))
 (R_c10)) (St.mk s o) Q =
 (condK (s 5)
 (demand (unV UnOp.neg (s 6)) (fun x1 =>
wpB C I R_c10 (St.mk (look [(0, (s 0)), (4, (s 4)), (6, x1)]) (looko ([].map fun n => (n, o n)))) Q))
 (wpB C I R_c10 (St.mk (look [(0, (s 0)), (4, (s 4)), (6, (s 6)), (55, (s 5))]) (looko ([].map fun n => (n, o n)))) Q)) := rfl
theorem g_ref01_Parse_c12_sh {R_l0 : ACode} {R_c11 : ACode} {C : Ctx} {I : Nat → Prop} {s : Nat → V} {o : Nat → Option Ob} {Q : Ex → St → Prop} : wpB C I (.seq (.region [0, 4, 5, 6] (some []) none
    [⟨some 6, .mv (.c (.d (.int .i64 0))), [], [], none, none⟩])
 (.seq (.seq (.region [0, 4, 5, 6, 7] (some []) none
      [⟨some 7, .mv (.c (.d (.int .i64 0))), [], [], none, none⟩])
   (.block 0 [0, 4, 5, 6] (some []) (R_l0)))
  (R_c11))) (St.mk s o) Q =
 (wpB C I R_l0 (St.mk (look [(0, (s 0)), (4, (s 4)), (5, (s 5)), (6, (V.d (.int .i64 0))), (7, (V.d (.int .i64 0)))]) (looko ([].map fun n => (n, o n)))) (blockK 0 [0, 4, 5, 6] (some []) (seqK (fun st => wpB C I R_c11 st Q) Q))) := rfl
theorem g_ref01_Parse_code_sh {R_o0 : List AOper} {R_c0 : ACode} {R_c12 : ACode} {C : Ctx} {I : Nat → Prop} {s : Nat → V} {o : Nat → Option Ob} {Q : Ex → St → Prop} : wpB C I (.seq (.region [0] (some []) none
    [⟨some 2, .mv (.c (.d (.int .i64 0))), [], [], none, none⟩,
     ⟨some 3, .mv (.c (.d (.bool false))), [], [], none, none⟩])
 (.seq (.region [0, 4, 5] (some []) none
     [⟨some 10, .mv (.t 0), [], [], none, none⟩,
      ⟨some 4, .mv (.t 10), [], [], none, none⟩,
      ⟨some 5, .mv (.c (.d (.bool false))), [], [], none, none⟩])
  (.seq (.seq (.region [0, 4, 5, 18] (some []) none
       (⟨some 11, .mv (.t 4), [], [], none, none⟩ ::
        ⟨some 12, .lenS (.t 11), [], [], none, none⟩ ::
        ⟨some 13, .bin .gtr (.t 12) (.c (.d (.int .i64 0))), [], [], none, none⟩ ::
        ⟨some 14, .mv (.t 13), [], [], none, (some ([0, 4, 5, 14], (some [])))⟩ ::
        R_o0))
    (R_c0))
   (R_c12)))) (St.mk s o) Q =
 (demand (lenSV (s 0)) (fun x1 =>
demand (binV BinOp.gtr x1 (V.d (.int .i64 0))) (fun x2 =>
opsB C I R_o0 (St.mk (look [(0, (s 0)), (4, (s 0)), (5, (V.d (.bool false))), (14, x2)]) (looko ([].map fun n => (n, o n)))) (fun st => (seqK (fun st => wpB C I R_c0 st (seqK (fun st => wpB C I R_c12 st Q) Q)) (seqK (fun st => wpB C I R_c12 st Q) Q)) .normal (St.trim st [0, 4, 5, 18] (some [])))))) := rfl
theorem g_ref07_whole_c0_sh {C : Ctx} {I : Nat → Prop} {s : Nat → V} {o : Nat → Option Ob} {Q : Ex → St → Prop} : wpB C I (.region [0, 3] (some []) none
   [⟨some 8, .mv (.t 3), [], [], none, none⟩,
    ⟨some 9, .bin .add (.t 8) (.c (.d (.int .i64 1))), [], [], none, none⟩,
    ⟨some 3, .mv (.t 9), [], [], none, none⟩]) (St.mk s o) Q =
 (demand (binV BinOp.add (s 3) (V.d (.int .i64 1))) (fun x1 =>
Q .normal (St.mk (look [(0, (s 0)), (3, x1)]) (looko ([].map fun n => (n, o n)))))) := rfl
theorem g_ref07_whole_c1_sh {R_c0 : ACode} {C : Ctx} {I : Nat → Prop} {s : Nat → V} {o : Nat → Option Ob} {Q : Ex → St → Prop} : wpB C I (.seq (.block 1 [0, 3] (some []) (.seq (.region [0, 3, 14] (some []) none
      [⟨some 10, .mv (.t 0), [], [], none, none⟩,
       ⟨some 11, .mv (.t 3), [], [], none, none⟩,
       ⟨some 12, .idx (.t 10) (.t 11), [], [], none, none⟩,
       ⟨some 13, .call 96 [(.t 12), (.c (.d (.str [48, 49, 50, 51, 52, 53, 54, 55, 56, 57])))], [], [], none, none⟩,
       ⟨some 14, .un .not (.t 13), [], [], none, none⟩])
   (.cond (.t 14) (.seq (.region [2] (some []) none
        [⟨some 2, .mv (.c (.d (.bool false))), [], [], none, none⟩])
     (.ret))
    (.skip))))
 (R_c0)) (St.mk s o) Q =
 (demand (idxV (s 0) (s 3)) (fun x1 =>
callK C I (St.mk (upd (upd (upd s 10 (s 0)) 11 (s 3)) 12 x1) o) (some 13) 96 [x1, (V.d (.str [48, 49, 50, 51, 52, 53, 54, 55, 56, 57]))] (fun r2 or2 =>
demand (unV UnOp.not r2) (fun x3 =>
condK x3
 (Q .ret (St.mk (look [(2, (V.d (.bool false)))]) (looko ([].map fun n => (n, or2 n)))))
 (wpB C I R_c0 (St.mk (look [(0, (s 0)), (3, (s 3))]) (looko ([].map fun n => (n, or2 n)))) Q))))) := rfl
theorem g_ref07_whole_l0_sh {R_l0 : ACode} {R_c1 : ACode} {C : Ctx} {I : Nat → Prop} {s : Nat → V} {o : Nat → Option Ob} {Q : Ex → St → Prop} (hL : R_l0 = .loop [0, 3] (some []) (.seq (.seq (.region [0, 3, 7] (some []) none
      [⟨some 4, .mv (.t 3), [], [], none, none⟩,
       ⟨some 5, .mv (.t 0), [], [], none, none⟩,
       ⟨some 6, .lenS (.t 5), [], [], none, none⟩,
       ⟨some 7, .bin .lss (.t 4) (.t 6), [], [], none, none⟩])
   (.cond (.t 7) (.skip)
    (.exit 0)))
  (R_c1)))
 (h : demand (lenSV (s 0)) (fun x1 =>
demand (binV BinOp.lss (s 3) x1) (fun x2 =>
condK x2
 (wpB C I R_c1 (St.mk (look [(0, (s 0)), (3, (s 3)), (7, x2)]) (looko ([].map fun n => (n, o n)))) (seqK (fun s => wpB C I R_l0 s Q) Q))
 (Q (.exit 0) (St.mk (look [(0, (s 0)), (3, (s 3)), (7, x2)]) (looko ([].map fun n => (n, o n)))))))) : wpB C I R_l0 (St.mk s o) Q := w_loopC hL h
theorem g_ref07_whole_o5_sh {C : Ctx} {I : Nat → Prop} {s : Nat → V} {o : Nat → Option Ob} {K : St → Prop} : opsB C I [⟨some 32, .pick (.t 23) (.t 31) (.c (.d (.bool false))), [], [], none, none⟩,
     ⟨some 2, .mv (.t 32), [], [], none, none⟩] (St.mk s o) K =
 (demand (pickV (s 23) (s 31) (V.d (.bool false))) (fun x1 =>
K (St.mk (upd (upd s 32 x1) 2 x1) o))) := rfl
theorem g_ref07_whole_o4_sh {R_o5 : List AOper} {C : Ctx} {I : Nat → Prop} {s : Nat → V} {o : Nat → Option Ob} {K : St → Prop} : opsB C I (⟨some 31, .pick (.t 27) (.c (.d (.bool true))) (.t 30), [], [], (some (8, 23, true)), (some ([23, 31], (some [])))⟩ ::
     R_o5) (St.mk s o) K =
 (guardK (s 23) true
 (demand (pickV (s 27) (V.d (.bool true)) (s 30)) (fun x1 =>
opsB C I R_o5 (St.mk (look [(23, (V.d (D.bool true))), (31, x1)]) (looko ([].map fun n => (n, o n)))) K))
 (opsB C I R_o5 (St.mk (look [(23, (V.d (D.bool false))), (31, (V.tup []))]) (looko ([].map fun n => (n, o n)))) K)
 (opsB C I R_o5 (St.mk (look [(23, (V.tup [])), (31, (V.tup []))]) (looko ([].map fun n => (n, o n)))) K)) := rfl
theorem g_ref07_whole_o3_sh {R_o4 : List AOper} {C : Ctx} {I : Nat → Prop} {s : Nat → V} {o : Nat → Option Ob} {K : St → Prop} : opsB C I (⟨some 28, .mv (.t 0), [], [], (some (12, 27, false)), none⟩ ::
     ⟨some 29, .idx (.t 28) (.c (.d (.int .i64 0))), [], [], (some (12, 27, false)), none⟩ ::
     ⟨some 30, .bin .neq (.t 29) (.c (.d (.int .u8 48))), [], [], (some (12, 27, false)), (some ([23, 27, 30], (some [])))⟩ ::
     R_o4) (St.mk s o) K =
 (guardK (s 27) false
 (demand (idxV (s 0) (V.d (.int .i64 0))) (fun x1 =>
demand (binV BinOp.neq x1 (V.d (.int .u8 48))) (fun x2 =>
opsB C I R_o4 (St.mk (look [(23, (s 23)), (27, (V.d (D.bool false))), (30, x2)]) (looko ([].map fun n => (n, o n)))) K)))
 (opsB C I R_o4 (St.mk (look [(23, (s 23)), (27, (V.d (D.bool true))), (30, (V.tup []))]) (looko ([].map fun n => (n, o n)))) K)
 (opsB C I R_o4 (St.mk (look [(23, (s 23)), (27, (V.tup [])), (30, (V.tup []))]) (looko ([].map fun n => (n, o n)))) K)) := rfl
theorem g_ref07_whole_o2_sh {R_o3 : List AOper} {C : Ctx} {I : Nat → Prop} {s : Nat → V} {o : Nat → Option Ob} {K : St → Prop} : opsB C I (⟨some 24, .mv (.t 0), [], [], (some (8, 23, true)), none⟩ ::
     ⟨some 25, .lenS (.t 24), [], [], (some (8, 23, true)), none⟩ ::
     ⟨some 26, .bin .eql (.t 25) (.c (.d (.int .i64 1))), [], [], (some (8, 23, true)), none⟩ ::
     ⟨some 27, .mv (.t 26), [], [], (some (8, 23, true)), (some ([0, 23, 27], (some [])))⟩ ::
     R_o3) (St.mk s o) K =
 (guardK (s 23) true
 (demand (lenSV (s 0)) (fun x1 =>
demand (binV BinOp.eql x1 (V.d (.int .i64 1))) (fun x2 =>
opsB C I R_o3 (St.mk (look [(0, (s 0)), (23, (V.d (D.bool true))), (27, x2)]) (looko ([].map fun n => (n, o n)))) K)))
 (opsB C I R_o3 (St.mk (look [(0, (s 0)), (23, (V.d (D.bool false))), (27, (V.tup []))]) (looko ([].map fun n => (n, o n)))) K)
 (opsB C I R_o3 (St.mk (look [(0, (s 0)), (23, (V.tup [])), (27, (V.tup []))]) (looko ([].map fun n => (n, o n)))) K)) := rfl
theorem g_ref07_whole_o1_sh {R_o2 : List AOper} {C : Ctx} {I : Nat → Prop} {s : Nat → V} {o : Nat → Option Ob} {K : St → Prop} : opsB C I (⟨some 22, .pick (.t 18) (.t 21) (.c (.d (.bool false))), [], [], none, none⟩ ::
     ⟨some 23, .mv (.t 22), [], [], none, (some ([0, 23], (some [])))⟩ ::
     R_o2) (St.mk s o) K =
 (demand (pickV (s 18) (s 21) (V.d (.bool false))) (fun x1 =>
opsB C I R_o2 (St.mk (look [(0, (s 0)), (23, x1)]) (looko ([].map fun n => (n, o n)))) K)) := rfl
theorem g_ref07_whole_o0_sh {R_o1 : List AOper} {C : Ctx} {I : Nat → Prop} {s : Nat → V} {o : Nat → Option Ob} {K : St → Prop} : opsB C I (⟨some 19, .mv (.t 0), [], [], (some (3, 18, true)), none⟩ ::
     ⟨some 20, .lenS (.t 19), [], [], (some (3, 18, true)), none⟩ ::
     ⟨some 21, .bin .lss (.t 20) (.c (.d (.int .i64 10))), [], [], (some (3, 18, true)), (some ([0, 18, 21], (some [])))⟩ ::
     R_o1) (St.mk s o) K =
 (guardK (s 18) true
 (demand (lenSV (s 0)) (fun x1 =>
demand (binV BinOp.lss x1 (V.d (.int .i64 10))) (fun x2 =>
opsB C I R_o1 (St.mk (look [(0, (s 0)), (18, (V.d (D.bool true))), (21, x2)]) (looko ([].map fun n => (n, o n)))) K)))
 (opsB C I R_o1 (St.mk (look [(0, (s 0)), (18, (V.d (D.bool false))), (21, (V.tup []))]) (looko ([].map fun n => (n, o n)))) K)
 (opsB C I R_o1 (St.mk (look [(0, (s 0)), (18, (V.tup [])), (21, (V.tup []))]) (looko ([].map fun n => (n, o n)))) K)) := rfl
theorem g_ref07_whole_c2_sh {C : Ctx} {I : Nat → Prop} {s : Nat → V} {o : Nat → Option Ob} {Q : Ex → St → Prop} : wpB C I (.ret) (St.mk s o) Q =
 (Q .ret (St.mk s o)) := rfl
theorem g_ref07_whole_c3_sh {R_o0 : List AOper} {R_c2 : ACode} {C : Ctx} {I : Nat → Prop} {s : Nat → V} {o : Nat → Option Ob} {Q : Ex → St → Prop} : wpB C I (.seq (.region [2] (some []) none
    (⟨some 15, .mv (.t 0), [], [], none, none⟩ ::
     ⟨some 16, .lenS (.t 15), [], [], none, none⟩ ::
     ⟨some 17, .bin .gtr (.t 16) (.c (.d (.int .i64 0))), [], [], none, none⟩ ::
     ⟨some 18, .mv (.t 17), [], [], none, (some ([0, 18], (some [])))⟩ ::
     R_o0))
 (R_c2)) (St.mk s o) Q =
 (demand (lenSV (s 0)) (fun x1 =>
demand (binV BinOp.gtr x1 (V.d (.int .i64 0))) (fun x2 =>
opsB C I R_o0 (St.mk (look [(0, (s 0)), (18, x2)]) (looko ([].map fun n => (n, o n)))) (fun st => (seqK (fun st => wpB C I R_c2 st Q) Q) .normal (St.trim st [2] (some [])))))) := rfl
theorem g_ref07_whole_code_sh {R_l0 : ACode} {R_c3 : ACode} {C : Ctx} {I : Nat → Prop} {s : Nat → V} {o : Nat → Option Ob} {Q : Ex → St → Prop} : wpB C I (.seq (.region [0] (some []) none
    [⟨some 2, .mv (.c (.d (.bool false))), [], [], none, none⟩])
 (.seq (.seq (.region [0, 3] (some []) none
      [⟨some 3, .mv (.c (.d (.int .i64 0))), [], [], none, none⟩])
   (.block 0 [0] (some []) (R_l0)))
  (R_c3))) (St.mk s o) Q =
 (wpB C I R_l0 (St.mk (look [(0, (s 0)), (3, (V.d (.int .i64 0)))]) (looko ([].map fun n => (n, o n)))) (blockK 0 [0] (some []) (seqK (fun st => wpB C I R_c3 st Q) Q))) := rfl
theorem g_money_Right_code_sh {C : Ctx} {I : Nat → Prop} {s : Nat → V} {o : Nat → Option Ob} {Q : Ex → St → Prop} : wpB C I (.seq (.region [0] (some []) none
    [⟨some 2, .mv (.c (.d (.bool false))), [], [], none, none⟩])
 (.seq (.region [2] (some []) none
     [⟨some 3, .mv (.t 0), [], [], none, none⟩,
      ⟨some 4, .bin .geq (.t 3) (.c (.d (.int .i64 (-9223372036854775807)))), [], [], none, none⟩,
      ⟨some 2, .mv (.t 4), [], [], none, none⟩])
  (.ret))) (St.mk s o) Q =
 (demand (binV BinOp.geq (s 0) (V.d (.int .i64 (-9223372036854775807)))) (fun x1 =>
Q .ret (St.mk (look [(2, x1)]) (looko ([].map fun n => (n, o n)))))) := rfl
theorem g_internal_stringslite_CutSuffix_c0_sh {C : Ctx} {I : Nat → Prop} {s : Nat → V} {o : Nat → Option Ob} {Q : Ex → St → Prop} : wpB C I (.seq (.region [4, 5] (some []) none
    [⟨some 11, .mv (.t 0), [], [], none, none⟩,
     ⟨some 12, .mv (.t 0), [], [], none, none⟩,
     ⟨some 13, .lenS (.t 12), [], [], none, none⟩,
     ⟨some 14, .mv (.t 1), [], [], none, none⟩,
     ⟨some 15, .lenS (.t 14), [], [], none, none⟩,
     ⟨some 16, .bin .sub (.t 13) (.t 15), [], [], none, none⟩,
     ⟨some 17, .slcS (.t 11) none (some (.t 16)), [], [], none, none⟩,
     ⟨some 4, .mv (.t 17), [], [], none, none⟩,
     ⟨some 5, .mv (.c (.d (.bool true))), [], [], none, none⟩])
 (.ret)) (St.mk s o) Q =
 (demand (lenSV (s 0)) (fun x1 =>
demand (lenSV (s 1)) (fun x2 =>
demand (binV BinOp.sub x1 x2) (fun x3 =>
demand (slcSV (s 0) none (some x3)) (fun x4 =>
Q .ret (St.mk (look [(4, x4), (5, (V.d (.bool true)))]) (looko ([].map fun n => (n, o n))))))))) := rfl
theorem g_internal_stringslite_CutSuffix_code_sh {R_c0 : ACode} {C : Ctx} {I : Nat → Prop} {s : Nat → V} {o : Nat → Option Ob} {Q : Ex → St → Prop} : wpB C I (.seq (.region [0, 1] (some []) none
    [⟨some 4, .mv (.c (.d (.str []))), [], [], none, none⟩,
     ⟨some 5, .mv (.c (.d (.bool false))), [], [], none, none⟩])
 (.seq (.seq (.region [0, 1, 9] (some []) none
      [⟨some 6, .mv (.t 0), [], [], none, none⟩,
       ⟨some 7, .mv (.t 1), [], [], none, none⟩,
       ⟨some 8, .call 141 [(.t 6), (.t 7)], [], [], none, none⟩,
       ⟨some 9, .un .not (.t 8), [], [], none, none⟩])
   (.cond (.t 9) (.seq (.region [4, 5] (some []) none
        [⟨some 10, .mv (.t 0), [], [], none, none⟩,
         ⟨some 4, .mv (.t 10), [], [], none, none⟩,
         ⟨some 5, .mv (.c (.d (.bool false))), [], [], none, none⟩])
     (.ret))
    (.skip)))
  (R_c0))) (St.mk s o) Q =
 (callK C I (St.mk (upd (upd (look [(0, (s 0)), (1, (s 1))]) 6 (s 0)) 7 (s 1)) (looko ([].map fun n => (n, o n)))) (some 8) 141 [(s 0), (s 1)] (fun r1 or1 =>
demand (unV UnOp.not r1) (fun x2 =>
condK x2
 (Q .ret (St.mk (look [(4, (s 0)), (5, (V.d (.bool false)))]) (looko ([].map fun n => (n, or1 n)))))
 (wpB C I R_c0 (St.mk (look [(0, (s 0)), (1, (s 1)), (9, x2)]) (looko ([].map fun n => (n, or1 n)))) Q)))) := rfl
theorem g_ref01_Digits_l0_sh {R_l0 : ACode} {C : Ctx} {I : Nat → Prop} {s : Nat → V} {o : Nat → Option Ob} {Q : Ex → St → Prop} (hL : R_l0 = .loop [0, 3] (some []) (.seq (.seq (.region [0, 3, 11] (some []) none
      [⟨some 10, .mv (.t 0), [], [], none, none⟩,
       ⟨some 11, .bin .gtr (.t 10) (.c (.d (.int .i64 9))), [], [], none, none⟩])
   (.cond (.t 11) (.skip)
    (.exit 0)))
  (.block 1 [0, 3] (some []) (.seq (.region [0, 3] (some []) none
       [⟨some 12, .mv (.t 0), [], [], none, none⟩,
        ⟨some 13, .bin .quo (.t 12) (.c (.d (.int .i64 10))), [], [], none, none⟩,
        ⟨some 0, .mv (.t 13), [], [], none, none⟩])
    (.region [0, 3] (some []) none
       [⟨some 14, .mv (.t 0), [], [], none, none⟩,
        ⟨some 15, .bin .rem (.t 14) (.c (.d (.int .i64 10))), [], [], none, none⟩,
        ⟨some 16, .bin .add (.c (.d (.int .i64 48))) (.t 15), [], [], none, none⟩,
        ⟨some 17, .conv .u8 (.t 16), [], [], none, none⟩,
        ⟨some 18, .bsl none 1 [] 1 [(0, (.t 17))], [], [], none, none⟩,
        ⟨some 19, .bstr (.t 18), [], [], none, none⟩,
        ⟨some 20, .mv (.t 3), [], [], none, none⟩,
        ⟨some 21, .bin .add (.t 19) (.t 20), [], [], none, none⟩,
        ⟨some 3, .mv (.t 21), [], [], none, none⟩])))))
 (h : demand (binV BinOp.gtr (s 0) (V.d (.int .i64 9))) (fun x1 =>
condK x1
 (demand (binV BinOp.quo (s 0) (V.d (.int .i64 10))) (fun x2 =>
demand (binV BinOp.rem x2 (V.d (.int .i64 10))) (fun x3 =>
demand (binV BinOp.add (V.d (.int .i64 48)) x3) (fun x4 =>
demand (convV IntKind.u8 x4) (fun x5 =>
lstK (partsN 1 [x5]) (fun es6 =>
demand (bstrV (V.d (D.sl es6))) (fun x7 =>
demand (binV BinOp.add x7 (s 3)) (fun x8 =>
wpB C I R_l0 (St.mk (look [(0, x2), (3, x8)]) (looko ([].map fun n => (n, o n)))) Q))))))))
 (Q (.exit 0) (St.mk (look [(0, (s 0)), (3, (s 3)), (11, x1)]) (looko ([].map fun n => (n, o n))))))) : wpB C I R_l0 (St.mk s o) Q := w_loopC hL h
theorem g_ref01_Digits_c0_sh {C : Ctx} {I : Nat → Prop} {s : Nat → V} {o : Nat → Option Ob} {Q : Ex → St → Prop} : wpB C I (.seq (.region [2] (some []) none
    [⟨some 22, .mv (.t 3), [], [], none, none⟩,
     ⟨some 2, .mv (.t 22), [], [], none, none⟩])
 (.ret)) (St.mk s o) Q =
 (Q .ret (St.mk (look [(2, (s 3))]) (looko ([].map fun n => (n, o n))))) := rfl
theorem g_ref01_Digits_c1_sh {R_l0 : ACode} {R_c0 : ACode} {C : Ctx} {I : Nat → Prop} {s : Nat → V} {o : Nat → Option Ob} {Q : Ex → St → Prop} : wpB C I (.seq (.block 0 [3] (some []) (R_l0))
 (R_c0)) (St.mk s o) Q =
 (wpB C I R_l0 (St.mk s o) (blockK 0 [3] (some []) (seqK (fun st => wpB C I R_c0 st Q) Q))) := rfl
theorem g_ref01_Digits_code_sh {R_c1 : ACode} {C : Ctx} {I : Nat → Prop} {s : Nat → V} {o : Nat → Option Ob} {Q : Ex → St → Prop} : wpB C I (.seq (.region [0] (some []) none
    [⟨some 2, .mv (.c (.d (.str []))), [], [], none, none⟩])
 (.seq (.region [0, 3] (some []) none
     [⟨some 4, .mv (.t 0), [], [], none, none⟩,
      ⟨some 5, .bin .rem (.t 4) (.c (.d (.int .i64 10))), [], [], none, none⟩,
      ⟨some 6, .bin .add (.c (.d (.int .i64 48))) (.t 5), [], [], none, none⟩,
      ⟨some 7, .conv .u8 (.t 6), [], [], none, none⟩,
      ⟨some 8, .bsl none 1 [] 1 [(0, (.t 7))], [], [], none, none⟩,
      ⟨some 9, .bstr (.t 8), [], [], none, none⟩,
      ⟨some 3, .mv (.t 9), [], [], none, none⟩])
  (R_c1))) (St.mk s o) Q =
 (demand (binV BinOp.rem (s 0) (V.d (.int .i64 10))) (fun x1 =>
demand (binV BinOp.add (V.d (.int .i64 48)) x1) (fun x2 =>
demand (convV IntKind.u8 x2) (fun x3 =>
lstK (partsN 1 [x3]) (fun es4 =>
demand (bstrV (V.d (D.sl es4))) (fun x5 =>
wpB C I R_c1 (St.mk (look [(0, (s 0)), (3, x5)]) (looko ([].map fun n => (n, o n)))) Q)))))) := rfl
theorem g_strings_HasPrefix_code_sh {C : Ctx} {I : Nat → Prop} {s : Nat → V} {o : Nat → Option Ob} {Q : Ex → St → Prop} : wpB C I (.seq (.region [0, 1] (some []) none
    [⟨some 4, .mv (.c (.d (.bool false))), [], [], none, none⟩])
 (.seq (.region [4] (some []) none
     [⟨some 5, .mv (.t 0), [], [], none, none⟩,
      ⟨some 6, .mv (.t 1), [], [], none, none⟩,
      ⟨some 7, .call 131 [(.t 5), (.t 6)], [], [], none, none⟩,
      ⟨some 4, .mv (.t 7), [], [], none, none⟩])
  (.ret))) (St.mk s o) Q =
 (callK C I (St.mk (upd (upd (look [(0, (s 0)), (1, (s 1))]) 5 (s 0)) 6 (s 1)) (looko ([].map fun n => (n, o n)))) (some 7) 131 [(s 0), (s 1)] (fun r1 or1 =>
Q .ret (St.mk (look [(4, r1)]) (looko ([].map fun n => (n, or1 n)))))) := rfl
theorem g_internal_stringslite_HasSuffix_o1_sh {C : Ctx} {I : Nat → Prop} {s : Nat → V} {o : Nat → Option Ob} {K : St → Prop} : opsB C I [⟨some 20, .pick (.t 10) (.t 19) (.c (.d (.bool false))), [], [], none, none⟩,
     ⟨some 4, .mv (.t 20), [], [], none, none⟩] (St.mk s o) K =
 (demand (pickV (s 10) (s 19) (V.d (.bool false))) (fun x1 =>
K (St.mk (upd (upd s 20 x1) 4 x1) o))) := rfl
theorem g_internal_stringslite_HasSuffix_o0_sh {R_o1 : List AOper} {C : Ctx} {I : Nat → Prop} {s : Nat → V} {o : Nat → Option Ob} {K : St → Prop} : opsB C I (⟨some 11, .mv (.t 0), [], [], (some (5, 10, true)), none⟩ ::
     ⟨some 12, .mv (.t 0), [], [], (some (5, 10, true)), none⟩ ::
     ⟨some 13, .lenS (.t 12), [], [], (some (5, 10, true)), none⟩ ::
     ⟨some 14, .mv (.t 1), [], [], (some (5, 10, true)), none⟩ ::
     ⟨some 15, .lenS (.t 14), [], [], (some (5, 10, true)), none⟩ ::
     ⟨some 16, .bin .sub (.t 13) (.t 15), [], [], (some (5, 10, true)), none⟩ ::
     ⟨some 17, .slcS (.t 11) (some (.t 16)) none, [], [], (some (5, 10, true)), none⟩ ::
     ⟨some 18, .mv (.t 1), [], [], (some (5, 10, true)), none⟩ ::
     ⟨some 19, .bin .eql (.t 17) (.t 18), [], [], (some (5, 10, true)), (some ([10, 19], (some [])))⟩ ::
     R_o1) (St.mk s o) K =
 (guardK (s 10) true
 (demand (lenSV (s 0)) (fun x1 =>
demand (lenSV (s 1)) (fun x2 =>
demand (binV BinOp.sub x1 x2) (fun x3 =>
demand (slcSV (s 0) (some x3) none) (fun x4 =>
demand (binV BinOp.eql x4 (s 1)) (fun x5 =>
opsB C I R_o1 (St.mk (look [(10, (V.d (D.bool true))), (19, x5)]) (looko ([].map fun n => (n, o n)))) K))))))
 (opsB C I R_o1 (St.mk (look [(10, (V.d (D.bool false))), (19, (V.tup []))]) (looko ([].map fun n => (n, o n)))) K)
 (opsB C I R_o1 (St.mk (look [(10, (V.tup [])), (19, (V.tup []))]) (looko ([].map fun n => (n, o n)))) K)) := rfl
theorem g_internal_stringslite_HasSuffix_c0_sh {C : Ctx} {I : Nat → Prop} {s : Nat → V} {o : Nat → Option Ob} {Q : Ex → St → Prop} : wpB C I (.ret) (St.mk s o) Q =
 (Q .ret (St.mk s o)) := rfl
theorem g_internal_stringslite_HasSuffix_code_sh {R_o0 : List AOper} {R_c0 : ACode} {C : Ctx} {I : Nat → Prop} {s : Nat → V} {o : Nat → Option Ob} {Q : Ex → St → Prop} : wpB C I (.seq (.region [0, 1] (some []) none
    [⟨some 4, .mv (.c (.d (.bool false))), [], [], none, none⟩])
 (.seq (.region [4] (some []) none
     (⟨some 5, .mv (.t 0), [], [], none, none⟩ ::
      ⟨some 6, .lenS (.t 5), [], [], none, none⟩ ::
      ⟨some 7, .mv (.t 1), [], [], none, none⟩ ::
      ⟨some 8, .lenS (.t 7), [], [], none, none⟩ ::
      ⟨some 9, .bin .geq (.t 6) (.t 8), [], [], none, none⟩ ::
      ⟨some 10, .mv (.t 9), [], [], none, (some ([0, 1, 10], (some [])))⟩ ::
      R_o0))
  (R_c0))) (St.mk s o) Q =
 (demand (lenSV (s 0)) (fun x1 =>
demand (lenSV (s 1)) (fun x2 =>
demand (binV BinOp.geq x1 x2) (fun x3 =>
opsB C I R_o0 (St.mk (look [(0, (s 0)), (1, (s 1)), (10, x3)]) (looko ([].map fun n => (n, o n)))) (fun st => (seqK (fun st => wpB C I R_c0 st Q) Q) .normal (St.trim st [4] (some []))))))) := rfl
theorem g_internal_stringslite_HasPrefix_o1_sh {C : Ctx} {I : Nat → Prop} {s : Nat → V} {o : Nat → Option Ob} {K : St → Prop} : opsB C I [⟨some 17, .pick (.t 10) (.t 16) (.c (.d (.bool false))), [], [], none, none⟩,
     ⟨some 4, .mv (.t 17), [], [], none, none⟩] (St.mk s o) K =
 (demand (pickV (s 10) (s 16) (V.d (.bool false))) (fun x1 =>
K (St.mk (upd (upd s 17 x1) 4 x1) o))) := rfl
theorem g_internal_stringslite_HasPrefix_o0_sh {R_o1 : List AOper} {C : Ctx} {I : Nat → Prop} {s : Nat → V} {o : Nat → Option Ob} {K : St → Prop} : opsB C I (⟨some 11, .mv (.t 0), [], [], (some (5, 10, true)), none⟩ ::
     ⟨some 12, .mv (.t 1), [], [], (some (5, 10, true)), none⟩ ::
     ⟨some 13, .lenS (.t 12), [], [], (some (5, 10, true)), none⟩ ::
     ⟨some 14, .slcS (.t 11) none (some (.t 13)), [], [], (some (5, 10, true)), none⟩ ::
     ⟨some 15, .mv (.t 1), [], [], (some (5, 10, true)), none⟩ ::
     ⟨some 16, .bin .eql (.t 14) (.t 15), [], [], (some (5, 10, true)), (some ([10, 16], (some [])))⟩ ::
     R_o1) (St.mk s o) K =
 (guardK (s 10) true
 (demand (lenSV (s 1)) (fun x1 =>
demand (slcSV (s 0) none (some x1)) (fun x2 =>
demand (binV BinOp.eql x2 (s 1)) (fun x3 =>
opsB C I R_o1 (St.mk (look [(10, (V.d (D.bool true))), (16, x3)]) (looko ([].map fun n => (n, o n)))) K))))
 (opsB C I R_o1 (St.mk (look [(10, (V.d (D.bool false))), (16, (V.tup []))]) (looko ([].map fun n => (n, o n)))) K)
 (opsB C I R_o1 (St.mk (look [(10, (V.tup [])), (16, (V.tup []))]) (looko ([].map fun n => (n, o n)))) K)) := rfl
theorem g_internal_stringslite_HasPrefix_c0_sh {C : Ctx} {I : Nat → Prop} {s : Nat → V} {o : Nat → Option Ob} {Q : Ex → St → Prop} : wpB C I (.ret) (St.mk s o) Q =
 (Q .ret (St.mk s o)) := rfl
theorem g_internal_stringslite_HasPrefix_code_sh {R_o0 : List AOper} {R_c0 : ACode} {C : Ctx} {I : Nat → Prop} {s : Nat → V} {o : Nat → Option Ob} {Q : Ex → St → Prop} : wpB C I (.seq (.region [0, 1] (some []) none
    [⟨some 4, .mv (.c (.d (.bool false))), [], [], none, none⟩])
 (.seq (.region [4] (some []) none
     (⟨some 5, .mv (.t 0), [], [], none, none⟩ ::
      ⟨some 6, .lenS (.t 5), [], [], none, none⟩ ::
      ⟨some 7, .mv (.t 1), [], [], none, none⟩ ::
      ⟨some 8, .lenS (.t 7), [], [], none, none⟩ ::
      ⟨some 9, .bin .geq (.t 6) (.t 8), [], [], none, none⟩ ::
      ⟨some 10, .mv (.t 9), [], [], none, (some ([0, 1, 10], (some [])))⟩ ::
      R_o0))
  (R_c0))) (St.mk s o) Q =
 (demand (lenSV (s 0)) (fun x1 =>
demand (lenSV (s 1)) (fun x2 =>
demand (binV BinOp.geq x1 x2) (fun x3 =>
opsB C I R_o0 (St.mk (look [(0, (s 0)), (1, (s 1)), (10, x3)]) (looko ([].map fun n => (n, o n)))) (fun st => (seqK (fun st => wpB C I R_c0 st Q) Q) .normal (St.trim st [4] (some []))))))) := rfl

end Pay
