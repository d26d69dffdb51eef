/- What the code of the functions comes to, without slots: an equation for each part; no condition. -/
import Derived.Test.YtcgeldjhobmijaaGreatDoorPayBb0
import Derived.Test.YtcgeldjhobmijaaGreatDoorPayCode0_0
set_option maxRecDepth 20000
set_option maxHeartbeats 400000
set_option linter.unusedVariables false
namespace Pay
open Go
variable {R_c0 R_c1 R_c2 R_c3 R_c4 R_c5 R_c6 R_c7 R_c8 R_c15 R_c16 R_c17 R_c18 R_c19 R_c20 R_c21 R_c22 R_l0 : ACode} {R_o0 R_o1 R_o2 R_o3 : List AOper} {C : Ctx} {I : Nat → Prop} {s : Nat → V} {o : Nat → Option Ob} {K : St → Prop} {Q : Ex → St → Prop}
theorem g_ref08_factor_c16_sh : wpB C I (g_ref08_factor.c16F R_c15) (St.mk s o) Q =
 (demand (faddrV 1 (s 15)) (fun x1 =>
demand (loadV o none x1) (fun x2 =>
demand ((buildN [V.d (.str []), V.d (.str []), V.d (.int .i64 0), V.d (.int .i64 0), V.d (.int .i64 0), V.d (.int .i64 0)] [(0, 1, (V.d (.str [110, 97, 109, 101]))), (1, 1, x2)]).map V.agg) (fun x3 =>
(¬ I 16 ∧ Fresh (St.mk (upd (upd (upd s 117 x1) 118 x2) 119 x3) o) 16 (some 16) ∧ V.refsL 16 [V.d (.str []), V.d (.str []), V.d (.int .i64 0), V.d (.int .i64 0), V.d (.int .i64 0), V.d (.int .i64 0)] = false ∧
storeK (V.ptr 16 0) (cellsV x3) 6 (upd o 16 (some (Ob.box [V.d (.str []), V.d (.str []), V.d (.int .i64 0), V.d (.int .i64 0), V.d (.int .i64 0), V.d (.int .i64 0)]))) (fun m4 ob5 =>
wpB C I R_c15 (St.mk (look [(2, s 2), (4, s 4), (15, s 15), (16, (V.ptr 16 0))]) (looko ([2, 4, 15, 16, 108].map fun n => (n, (upd (upd o 16 (some (Ob.box [V.d (.str []), V.d (.str []), V.d (.int .i64 0), V.d (.int .i64 0), V.d (.int .i64 0), V.d (.int .i64 0)]))) m4 (some ob5)) n)))) Q)))))) := rfl
@[instance] theorem g_ref08_factor_c16_u : UnfAt (wpB C I g_ref08_factor.c16 (St.mk s o) Q) g_ref08_factor_c16_sh := Unf.of _
theorem g_ref08_factor_c17_sh : wpB C I (g_ref08_factor.c17F R_c16) (St.mk s o) Q =
 (demand (faddrV 0 (s 2)) (fun x1 =>
demand (loadV o none x1) (fun x2 =>
demand (faddrV 2 (s 2)) (fun x3 =>
demand (loadV o none x3) (fun x4 =>
demand (iaddrV o 3 x2 x4) (fun x5 =>
demand (loadV o (some 3) x5) (fun x6 =>
(¬ I 15 ∧ Fresh (St.mk (upd (upd (upd (upd (upd (upd s 111 x1) 112 x2) 113 x3) 114 x4) 115 x5) 116 x6) o) 15 (some 15) ∧ V.refsL 15 [V.d (.int .i64 0), V.d (.str []), V.d (.int .i64 0)] = false ∧
storeK (V.ptr 15 0) (cellsV x6) 3 (upd o 15 (some (Ob.box [V.d (.int .i64 0), V.d (.str []), V.d (.int .i64 0)]))) (fun m7 ob8 =>
wpB C I R_c16 (St.mk (look [(2, s 2), (4, s 4), (15, (V.ptr 15 0))]) (looko ([2, 4, 15, 108].map fun n => (n, (upd (upd o 15 (some (Ob.box [V.d (.int .i64 0), V.d (.str []), V.d (.int .i64 0)]))) m7 (some ob8)) n)))) Q))))))))) := rfl
@[instance] theorem g_ref08_factor_c17_u : UnfAt (wpB C I g_ref08_factor.c17 (St.mk s o) Q) g_ref08_factor_c17_sh := Unf.of _
theorem g_ref08_factor_c18_sh : wpB C I (g_ref08_factor.c18F R_c17) (St.mk s o) Q =
 (demand (faddrV 2 (s 2)) (fun x1 =>
demand (loadV o none x1) (fun x2 =>
demand (faddrV 0 (s 2)) (fun x3 =>
demand (loadV o none x3) (fun x4 =>
demand (lenV o x4) (fun x5 =>
demand (binV BinOp.geq x2 x5) (fun x6 =>
condK x6
 (demand (loadV (looko ([2, 4, 108].map fun n => (n, o n))) (some 7) (s 2)) (fun x7 =>
callK C I (St.mk (upd (look [(2, s 2), (4, s 4), (108, x6)]) 109 x7) (looko ([2, 4, 108].map fun n => (n, o n)))) (some 110) 194 [x7, (V.d (.int .i64 2))] (fun r8 or8 =>
storeK (s 4) (cellsV r8) 7 or8 (fun m9 ob10 =>
Q .ret (St.mk (look [(4, s 4), (5, (V.d (.int .i64 0)))]) (looko ([4, 108].map fun n => (n, (upd or8 m9 (some ob10)) n))))))))
 (wpB C I R_c17 (St.mk (look [(2, s 2), (4, s 4), (108, x6)]) (looko ([2, 4, 108].map fun n => (n, o n)))) Q)))))))) := rfl
@[instance] theorem g_ref08_factor_c18_u : UnfAt (wpB C I g_ref08_factor.c18 (St.mk s o) Q) g_ref08_factor_c18_sh := Unf.of _
theorem g_ref08_factor_c19_sh : wpB C I (g_ref08_factor.c19F R_o0 R_c7 R_c18) (St.mk s o) Q =
 (demand (binV BinOp.eql (s 6) (V.d (.str [109, 105, 110]))) (fun x1 =>
opsB C I R_o0 (St.mk (look [(1, s 1), (2, s 2), (4, s 4), (6, s 6), (70, x1)]) (looko ([2, 4, 108].map fun n => (n, o n)))) (fun st => (seqK (fun st => wpB C I R_c7 st (seqK (fun st => wpB C I R_c18 st Q) Q)) (seqK (fun st => wpB C I R_c18 st Q) Q)) .normal (St.trim st [1, 2, 4, 6, 73] (some [2, 4, 108]))))) := rfl
@[instance] theorem g_ref08_factor_c19_u : UnfAt (wpB C I g_ref08_factor.c19 (St.mk s o) Q) g_ref08_factor_c19_sh := Unf.of _
theorem g_ref08_factor_c20_sh : wpB C I (g_ref08_factor.c20F R_c3 R_c19) (St.mk s o) Q =
 (demand (binV BinOp.eql (s 6) (V.d (.str [40]))) (fun x1 =>
condK x1
 (demand (faddrV 2 (s 2)) (fun x2 =>
demand (loadV (looko ([2, 4, 108].map fun n => (n, o n))) none x2) (fun x3 =>
demand (binV BinOp.add x3 (V.d (.int .i64 1))) (fun x4 =>
demand (faddrV 2 (s 2)) (fun x5 =>
storeK x5 (cellsV x4) 1 (looko ([2, 4, 108].map fun n => (n, o n))) (fun m6 ob7 =>
wpB C I R_c3 (St.mk (look [(1, s 1), (2, s 2), (4, s 4)]) (looko ([2, 4, 108].map fun n => (n, (upd (looko ([2, 4, 108].map fun n => (n, o n))) m6 (some ob7)) n)))) (seqK (fun st => wpB C I R_c19 st Q) Q)))))))
 (wpB C I R_c19 (St.mk (look [(1, s 1), (2, s 2), (4, s 4), (6, s 6), (53, x1)]) (looko ([2, 4, 108].map fun n => (n, o n)))) Q))) := rfl
@[instance] theorem g_ref08_factor_c20_u : UnfAt (wpB C I g_ref08_factor.c20 (St.mk s o) Q) g_ref08_factor_c20_sh := Unf.of _
theorem g_ref08_factor_c21_sh : wpB C I (g_ref08_factor.c21F R_c1 R_c20) (St.mk s o) Q =
 (demand (loadV o (some 7) (s 2)) (fun x1 =>
callK C I (St.mk (upd s 31 x1) o) (some 32) 193 [x1] (fun r2 or2 =>
demand (binV BinOp.eql r2 (V.d (.str [45]))) (fun x3 =>
condK x3
 (demand (faddrV 2 (s 2)) (fun x4 =>
demand (loadV (looko ([2, 4, 108].map fun n => (n, or2 n))) none x4) (fun x5 =>
demand (binV BinOp.add x5 (V.d (.int .i64 1))) (fun x6 =>
demand (faddrV 2 (s 2)) (fun x7 =>
storeK x7 (cellsV x6) 1 (looko ([2, 4, 108].map fun n => (n, or2 n))) (fun m8 ob9 =>
wpB C I R_c1 (St.mk (look [(1, s 1), (2, s 2), (4, s 4)]) (looko ([2, 4, 108].map fun n => (n, (upd (looko ([2, 4, 108].map fun n => (n, or2 n))) m8 (some ob9)) n)))) (seqK (fun st => wpB C I R_c20 st Q) Q)))))))
 (wpB C I R_c20 (St.mk (look [(1, s 1), (2, s 2), (4, s 4), (6, r2), (34, x3)]) (looko ([2, 4, 108].map fun n => (n, or2 n)))) Q))))) := rfl
@[instance] theorem g_ref08_factor_c21_u : UnfAt (wpB C I g_ref08_factor.c21 (St.mk s o) Q) g_ref08_factor_c21_sh := Unf.of _
theorem g_ref08_factor_c22_sh : wpB C I (g_ref08_factor.c22F R_c21) (St.mk s o) Q =
 (demand (faddrV 5 (s 2)) (fun x1 =>
demand (loadV o none x1) (fun x2 =>
demand (binV BinOp.neq x2 (V.d (.int .i64 0))) (fun x3 =>
condK x3
 (demand (loadV (looko ([2, 4, 108].map fun n => (n, o n))) (some 7) (s 2)) (fun x4 =>
storeK (s 4) (cellsV x4) 7 (looko ([2, 4, 108].map fun n => (n, o n))) (fun m5 ob6 =>
Q .ret (St.mk (look [(4, s 4), (5, (V.d (.int .i64 0)))]) (looko ([4, 108].map fun n => (n, (upd (looko ([2, 4, 108].map fun n => (n, o n))) m5 (some ob6)) n)))))))
 (wpB C I R_c21 (St.mk (look [(1, s 1), (2, s 2), (4, s 4), (29, x3)]) (looko ([2, 4, 108].map fun n => (n, o n)))) Q))))) := rfl
@[instance] theorem g_ref08_factor_c22_u : UnfAt (wpB C I g_ref08_factor.c22 (St.mk s o) Q) g_ref08_factor_c22_sh := Unf.of _
theorem g_ref08_factor_code_sh : wpB C I (g_ref08_factor.codeF R_c22) (St.mk s o) Q =
 (lstK (cellsV (s 0)) (fun c1 => c1.length = 7 ∧ ¬ I 2 ∧ Fresh (St.mk s o) 2 (some 2) ∧ V.refsL 2 c1 = false ∧
(¬ I 4 ∧ Fresh (St.mk (upd s 2 (V.ptr 2 0)) (upd o 2 (some (Ob.box c1)))) 4 (some 4) ∧ V.refsL 4 [V.cap0, V.d (.int .i64 0), V.d (.int .i64 0), V.cap0, V.cap0, V.d (.int .i64 0), V.d (.int .i64 0)] = false ∧
demand (binV BinOp.gtr (s 1) (V.d (.int .i64 20))) (fun x2 =>
condK x2
 (demand (loadV (looko ([2, 4, 108].map fun n => (n, (upd (upd o 2 (some (Ob.box c1))) 4 (some (Ob.box [V.cap0, V.d (.int .i64 0), V.d (.int .i64 0), V.cap0, V.cap0, V.d (.int .i64 0), V.d (.int .i64 0)]))) n))) (some 7) (V.ptr 2 0)) (fun x3 =>
callK C I (St.mk (upd (look [(1, s 1), (2, (V.ptr 2 0)), (4, (V.ptr 4 0)), (24, x2)]) 25 x3) (looko ([2, 4, 108].map fun n => (n, (upd (upd o 2 (some (Ob.box c1))) 4 (some (Ob.box [V.cap0, V.d (.int .i64 0), V.d (.int .i64 0), V.cap0, V.cap0, V.d (.int .i64 0), V.d (.int .i64 0)]))) n)))) (some 26) 194 [x3, (V.d (.int .i64 9))] (fun r4 or4 =>
storeK (V.ptr 2 0) (cellsV r4) 7 or4 (fun m5 ob6 =>
wpB C I R_c22 (St.mk (look [(1, s 1), (2, (V.ptr 2 0)), (4, (V.ptr 4 0))]) (looko ([2, 4, 108].map fun n => (n, (upd or4 m5 (some ob6)) n)))) Q))))
 (wpB C I R_c22 (St.mk (look [(1, s 1), (2, (V.ptr 2 0)), (4, (V.ptr 4 0)), (24, x2)]) (looko ([2, 4, 108].map fun n => (n, (upd (upd o 2 (some (Ob.box c1))) 4 (some (Ob.box [V.cap0, V.d (.int .i64 0), V.d (.int .i64 0), V.cap0, V.cap0, V.d (.int .i64 0), V.d (.int .i64 0)]))) n)))) Q))))) := rfl
@[instance] theorem g_ref08_factor_code_u : UnfAt (wpB C I g_ref08_factor.code (St.mk s o) Q) g_ref08_factor_code_sh := Unf.of _
theorem g_ref08_level_c0_sh : wpB C I (g_ref08_level.c0) (St.mk s o) Q =
 (lstK (partsN 1 [(V.d (.str [42]))]) (fun es1 =>
Q .ret (St.mk (look [(2, (V.d (D.sl es1)))]) (looko ([].map fun n => (n, o n)))))) := rfl
@[instance] theorem g_ref08_level_c0_u : UnfAt (wpB C I g_ref08_level.c0 (St.mk s o) Q) g_ref08_level_c0_sh := Unf.of _
theorem g_ref08_level_c1_sh : wpB C I (g_ref08_level.c1F R_c0) (St.mk s o) Q =
 (demand (binV BinOp.eql (s 0) (V.d (.int .i64 1))) (fun x1 =>
condK x1
 (lstK (partsN 1 [(V.d (.str [43])), (V.d (.str [45]))]) (fun es2 =>
Q .ret (St.mk (look [(2, (V.d (D.sl es2)))]) (looko ([].map fun n => (n, o n))))))
 (wpB C I R_c0 (St.mk (look [(7, x1)]) (looko ([].map fun n => (n, o n)))) Q))) := rfl
@[instance] theorem g_ref08_level_c1_u : UnfAt (wpB C I g_ref08_level.c1 (St.mk s o) Q) g_ref08_level_c1_sh := Unf.of _
theorem g_ref08_level_code_sh : wpB C I (g_ref08_level.codeF R_c1) (St.mk s o) Q =
 (demand (binV BinOp.eql (s 0) (V.d (.int .i64 0))) (fun x1 =>
condK x1
 (lstK (partsN 1 [(V.d (.str [60])), (V.d (.str [60, 61])), (V.d (.str [61])), (V.d (.str [60, 62])), (V.d (.str [62])), (V.d (.str [62, 61]))]) (fun es2 =>
Q .ret (St.mk (look [(2, (V.d (D.sl es2)))]) (looko ([].map fun n => (n, o n))))))
 (wpB C I R_c1 (St.mk (look [(0, s 0), (4, x1)]) (looko ([].map fun n => (n, o n)))) Q))) := rfl
@[instance] theorem g_ref08_level_code_u : UnfAt (wpB C I g_ref08_level.code (St.mk s o) Q) g_ref08_level_code_sh := Unf.of _
theorem g_money_Parse_o1_sh : opsB C I (g_money_Parse.o1) (St.mk s o) K =
 (demand (pickV (s 16) (V.d (.bool true)) (s 19)) (fun x1 =>
K (St.mk (upd s 20 x1) o))) := rfl
@[instance] theorem g_money_Parse_o1_u : UnfAt (opsB C I g_money_Parse.o1 (St.mk s o) K) g_money_Parse_o1_sh := Unf.of _
theorem g_money_Parse_o0_sh : opsB C I (g_money_Parse.o0F R_o1) (St.mk s o) K =
 (guardK (s 16) false
 (callK C I (St.mk (upd (upd (upd s 16 (V.d (D.bool false))) 17 (s 4)) 16 (V.d (D.bool false))) o) (some 18) 58 [(s 4)] (fun r1 or1 =>
demand (unV UnOp.not r1) (fun x2 =>
opsB C I R_o1 (St.mk (look [(0, s 0), (4, s 4), (16, (V.d (D.bool false))), (19, x2)]) (looko ([].map fun n => (n, or1 n)))) K)))
 (opsB C I R_o1 (St.mk (look [(0, s 0), (4, s 4), (16, (V.d (D.bool true))), (19, (V.tup []))]) (looko ([].map fun n => (n, o n)))) K)
 (opsB C I R_o1 (St.mk (look [(0, s 0), (4, s 4), (16, (V.tup [])), (19, (V.tup []))]) (looko ([].map fun n => (n, o n)))) K)) := rfl
@[instance] theorem g_money_Parse_o0_u : UnfAt (opsB C I g_money_Parse.o0 (St.mk s o) K) g_money_Parse_o0_sh := Unf.of _
theorem g_money_Parse_c0_sh : wpB C I (g_money_Parse.c0) (St.mk s o) Q =
 (condK (s 20)
 (Q .ret (St.mk (look [(2, (V.d (.int .i64 0))), (3, (V.d (.bool false)))]) (looko ([].map fun n => (n, o n)))))
 (Q .normal (St.mk s o))) := rfl
@[instance] theorem g_money_Parse_c0_u : UnfAt (wpB C I g_money_Parse.c0 (St.mk s o) Q) g_money_Parse_c0_sh := Unf.of _
theorem g_money_Parse_c1_sh : wpB C I (g_money_Parse.c1) (St.mk s o) Q =
 (demand (binV BinOp.neq (s 6) (s 0)) (fun x1 =>
condK x1
 (Q .ret (St.mk (look [(2, (V.d (.int .i64 0))), (3, (V.d (.bool false)))]) (looko ([].map fun n => (n, o n)))))
 (Q .normal (St.mk (look [(4, s 4), (28, x1)]) (looko ([].map fun n => (n, o n))))))) := rfl
@[instance] theorem g_money_Parse_c1_u : UnfAt (wpB C I g_money_Parse.c1 (St.mk s o) Q) g_money_Parse_c1_sh := Unf.of _
theorem g_money_Parse_c2_sh : wpB C I (g_money_Parse.c2) (St.mk s o) Q =
 (Q .ret (St.mk (look [(2, s 4), (3, (V.d (.bool true)))]) (looko ([].map fun n => (n, o n))))) := rfl
@[instance] theorem g_money_Parse_c2_u : UnfAt (wpB C I g_money_Parse.c2 (St.mk s o) Q) g_money_Parse_c2_sh := Unf.of _
theorem g_money_Parse_c3_sh : wpB C I (g_money_Parse.c3F R_c1 R_c2) (St.mk s o) Q =
 (callK C I (St.mk (upd s 22 (s 4)) o) (some 23) 50 [(s 4)] (fun r1 or1 =>
demand (extV r1 0) (fun x2 =>
demand (extV r1 1) (fun x3 =>
wpB C I R_c1 (St.mk (look [(0, s 0), (4, s 4), (6, x2)]) (looko ([].map fun n => (n, or1 n)))) (seqK (fun st => wpB C I R_c2 st Q) Q))))) := rfl
@[instance] theorem g_money_Parse_c3_u : UnfAt (wpB C I g_money_Parse.c3 (St.mk s o) Q) g_money_Parse_c3_sh := Unf.of _
theorem g_money_Parse_c4_sh : wpB C I (g_money_Parse.c4F R_o0 R_c0 R_c3) (St.mk s o) Q =
 (demand (nilEV true (s 5)) (fun x1 =>
opsB C I R_o0 (St.mk (look [(0, s 0), (4, s 4), (16, x1)]) (looko ([].map fun n => (n, o n)))) (fun st => (seqK (fun st => wpB C I R_c0 st (seqK (fun st => wpB C I R_c3 st Q) Q)) (seqK (fun st => wpB C I R_c3 st Q) Q)) .normal (St.trim st [0, 4, 20] (some []))))) := rfl
@[instance] theorem g_money_Parse_c4_u : UnfAt (wpB C I g_money_Parse.c4 (St.mk s o) Q) g_money_Parse_c4_sh := Unf.of _
theorem g_money_Parse_code_sh : wpB C I (g_money_Parse.codeF R_c4) (St.mk s o) Q =
 (callK C I (St.mk (upd (look [(0, s 0)]) 9 (s 0)) (looko ([].map fun n => (n, o n)))) (some 10) 69 [(s 0), (V.d (.str [46])), (V.d (.str [])), (V.d (.int .i64 1))] (fun r1 or1 =>
callK C I (St.mk (upd (upd (look [(0, s 0)]) 9 (s 0)) 10 r1) or1) (some 11) 70 [r1] (fun r2 or2 =>
demand (extV r2 0) (fun x3 =>
demand (extV r2 1) (fun x4 =>
wpB C I R_c4 (St.mk (look [(0, s 0), (4, x3), (5, x4)]) (looko ([].map fun n => (n, or2 n)))) Q))))) := rfl
@[instance] theorem g_money_Parse_code_u : UnfAt (wpB C I g_money_Parse.code (St.mk s o) Q) g_money_Parse_code_sh := Unf.of _
theorem g_internal_stringslite_HasSuffix_o1_sh : opsB C I (g_internal_stringslite_HasSuffix.o1) (St.mk s o) K =
 (demand (pickV (s 10) (s 19) (V.d (.bool false))) (fun x1 =>
K (St.mk (upd (upd s 20 x1) 4 x1) o))) := rfl
@[instance] theorem g_internal_stringslite_HasSuffix_o1_u : UnfAt (opsB C I g_internal_stringslite_HasSuffix.o1 (St.mk s o) K) g_internal_stringslite_HasSuffix_o1_sh := Unf.of _
theorem g_internal_stringslite_HasSuffix_o0_sh : opsB C I (g_internal_stringslite_HasSuffix.o0F R_o1) (St.mk s o) K =
 (guardK (s 10) true
 (demand (lenSV (s 0)) (fun x1 =>
demand (lenSV (s 1)) (fun x2 =>
demand (binV BinOp.sub x1 x2) (fun x3 =>
demand (slcSV (s 0) (some x3) none) (fun x4 =>
demand (binV BinOp.eql x4 (s 1)) (fun x5 =>
opsB C I R_o1 (St.mk (look [(10, (V.d (D.bool true))), (19, x5)]) (looko ([].map fun n => (n, o n)))) K))))))
 (opsB C I R_o1 (St.mk (look [(10, (V.d (D.bool false))), (19, (V.tup []))]) (looko ([].map fun n => (n, o n)))) K)
 (opsB C I R_o1 (St.mk (look [(10, (V.tup [])), (19, (V.tup []))]) (looko ([].map fun n => (n, o n)))) K)) := rfl
@[instance] theorem g_internal_stringslite_HasSuffix_o0_u : UnfAt (opsB C I g_internal_stringslite_HasSuffix.o0 (St.mk s o) K) g_internal_stringslite_HasSuffix_o0_sh := Unf.of _
theorem g_internal_stringslite_HasSuffix_c0_sh : wpB C I (g_internal_stringslite_HasSuffix.c0) (St.mk s o) Q =
 (Q .ret (St.mk s o)) := rfl
@[instance] theorem g_internal_stringslite_HasSuffix_c0_u : UnfAt (wpB C I g_internal_stringslite_HasSuffix.c0 (St.mk s o) Q) g_internal_stringslite_HasSuffix_c0_sh := Unf.of _
theorem g_internal_stringslite_HasSuffix_code_sh : wpB C I (g_internal_stringslite_HasSuffix.codeF R_o0 R_c0) (St.mk s o) Q =
 (demand (lenSV (s 0)) (fun x1 =>
demand (lenSV (s 1)) (fun x2 =>
demand (binV BinOp.geq x1 x2) (fun x3 =>
opsB C I R_o0 (St.mk (look [(0, s 0), (1, s 1), (10, x3)]) (looko ([].map fun n => (n, o n)))) (fun st => (seqK (fun st => wpB C I R_c0 st Q) Q) .normal (St.trim st [4] (some []))))))) := rfl
@[instance] theorem g_internal_stringslite_HasSuffix_code_u : UnfAt (wpB C I g_internal_stringslite_HasSuffix.code (St.mk s o) Q) g_internal_stringslite_HasSuffix_code_sh := Unf.of _
theorem g_rate_Parse_o3_sh : opsB C I (g_rate_Parse.o3) (St.mk s o) K =
 (demand (pickV (s 24) (V.d (.bool true)) (s 27)) (fun x1 =>
K (St.mk (upd s 28 x1) o))) := rfl
@[instance] theorem g_rate_Parse_o3_u : UnfAt (opsB C I g_rate_Parse.o3 (St.mk s o) K) g_rate_Parse_o3_sh := Unf.of _
theorem g_rate_Parse_o2_sh : opsB C I (g_rate_Parse.o2F R_o3) (St.mk s o) K =
 (guardK (s 24) false
 (callK C I (St.mk (upd (upd (upd s 24 (V.d (D.bool false))) 25 (s 6)) 24 (V.d (D.bool false))) o) (some 26) 88 [(s 6)] (fun r1 or1 =>
demand (unV UnOp.not r1) (fun x2 =>
opsB C I R_o3 (St.mk (look [(6, s 6), (24, (V.d (D.bool false))), (27, x2)]) (looko ([].map fun n => (n, or1 n)))) K)))
 (opsB C I R_o3 (St.mk (look [(6, s 6), (24, (V.d (D.bool true))), (27, (V.tup []))]) (looko ([].map fun n => (n, o n)))) K)
 (opsB C I R_o3 (St.mk (look [(6, s 6), (24, (V.tup [])), (27, (V.tup []))]) (looko ([].map fun n => (n, o n)))) K)) := rfl
@[instance] theorem g_rate_Parse_o2_u : UnfAt (opsB C I g_rate_Parse.o2 (St.mk s o) K) g_rate_Parse_o2_sh := Unf.of _
theorem g_rate_Parse_o1_sh : opsB C I (g_rate_Parse.o1F R_o2) (St.mk s o) K =
 (demand (pickV (s 20) (V.d (.bool true)) (s 22)) (fun x1 =>
opsB C I R_o2 (St.mk (look [(6, s 6), (24, x1)]) (looko ([].map fun n => (n, o n)))) K)) := rfl
@[instance] theorem g_rate_Parse_o1_u : UnfAt (opsB C I g_rate_Parse.o1 (St.mk s o) K) g_rate_Parse_o1_sh := Unf.of _
theorem g_rate_Parse_o0_sh : opsB C I (g_rate_Parse.o0F R_o1) (St.mk s o) K =
 (guardK (s 20) false
 (demand (unV UnOp.not (s 7)) (fun x1 =>
opsB C I R_o1 (St.mk (look [(6, s 6), (20, (V.d (D.bool false))), (22, x1)]) (looko ([].map fun n => (n, o n)))) K))
 (opsB C I R_o1 (St.mk (look [(6, s 6), (20, (V.d (D.bool true))), (22, (V.tup []))]) (looko ([].map fun n => (n, o n)))) K)
 (opsB C I R_o1 (St.mk (look [(6, s 6), (20, (V.tup [])), (22, (V.tup []))]) (looko ([].map fun n => (n, o n)))) K)) := rfl
@[instance] theorem g_rate_Parse_o0_u : UnfAt (opsB C I g_rate_Parse.o0 (St.mk s o) K) g_rate_Parse_o0_sh := Unf.of _
theorem g_rate_Parse_c0_sh : wpB C I (g_rate_Parse.c0) (St.mk s o) Q =
 (condK (s 28)
 (Q .ret (St.mk (look [(2, (V.d (.int .i64 0))), (3, (V.d (.bool false)))]) (looko ([].map fun n => (n, o n)))))
 (Q .normal (St.mk s o))) := rfl
@[instance] theorem g_rate_Parse_c0_u : UnfAt (wpB C I g_rate_Parse.c0 (St.mk s o) Q) g_rate_Parse_c0_sh := Unf.of _
theorem g_rate_Parse_c1_sh : wpB C I (g_rate_Parse.c1) (St.mk s o) Q =
 (Q .ret (St.mk (look [(2, s 6), (3, (V.d (.bool true)))]) (looko ([].map fun n => (n, o n))))) := rfl
@[instance] theorem g_rate_Parse_c1_u : UnfAt (wpB C I g_rate_Parse.c1 (St.mk s o) Q) g_rate_Parse_c1_sh := Unf.of _
theorem g_rate_Parse_c2_sh : wpB C I (g_rate_Parse.c2F R_o0 R_c0 R_c1) (St.mk s o) Q =
 (demand (unV UnOp.not (s 5)) (fun x1 =>
opsB C I R_o0 (St.mk (look [(6, s 6), (7, s 7), (20, x1)]) (looko ([].map fun n => (n, o n)))) (fun st => (seqK (fun st => wpB C I R_c0 st (seqK (fun st => wpB C I R_c1 st Q) Q)) (seqK (fun st => wpB C I R_c1 st Q) Q)) .normal (St.trim st [6, 28] (some []))))) := rfl
@[instance] theorem g_rate_Parse_c2_u : UnfAt (wpB C I g_rate_Parse.c2 (St.mk s o) Q) g_rate_Parse_c2_sh := Unf.of _
theorem g_rate_Parse_c3_sh : wpB C I (g_rate_Parse.c3F R_c2) (St.mk s o) Q =
 (callK C I (St.mk (upd s 14 (s 4)) o) (some 15) 51 [(s 4)] (fun r1 or1 =>
demand (extV r1 0) (fun x2 =>
demand (extV r1 1) (fun x3 =>
wpB C I R_c2 (St.mk (look [(5, s 5), (6, x2), (7, x3)]) (looko ([].map fun n => (n, or1 n)))) Q)))) := rfl
@[instance] theorem g_rate_Parse_c3_u : UnfAt (wpB C I g_rate_Parse.c3 (St.mk s o) Q) g_rate_Parse_c3_sh := Unf.of _
theorem g_rate_Parse_code_sh : wpB C I (g_rate_Parse.codeF R_c3) (St.mk s o) Q =
 (callK C I (St.mk (upd (look [(0, s 0)]) 9 (s 0)) (looko ([].map fun n => (n, o n)))) (some 10) 101 [(s 0), (V.d (.str [37]))] (fun r1 or1 =>
demand (extV r1 0) (fun x2 =>
demand (extV r1 1) (fun x3 =>
wpB C I R_c3 (St.mk (look [(4, x2), (5, x3)]) (looko ([].map fun n => (n, or1 n)))) Q)))) := rfl
@[instance] theorem g_rate_Parse_code_u : UnfAt (wpB C I g_rate_Parse.code (St.mk s o) Q) g_rate_Parse_code_sh := Unf.of _
theorem g_strings_HasPrefix_code_sh : wpB C I (g_strings_HasPrefix.code) (St.mk s o) Q =
 (callK C I (St.mk (upd (upd (look [(0, s 0), (1, s 1)]) 5 (s 0)) 6 (s 1)) (looko ([].map fun n => (n, o n)))) (some 7) 131 [(s 0), (s 1)] (fun r1 or1 =>
Q .ret (St.mk (look [(4, r1)]) (looko ([].map fun n => (n, or1 n)))))) := rfl
@[instance] theorem g_strings_HasPrefix_code_u : UnfAt (wpB C I g_strings_HasPrefix.code (St.mk s o) Q) g_strings_HasPrefix_code_sh := Unf.of _
theorem g_tree_parser_product_c0_sh : wpB C I (g_tree_parser_product.c0) (St.mk s o) Q =
 (demand (unV UnOp.not (s 7)) (fun x1 =>
condK x1
 (Q .ret (St.mk (look [(4, s 5)]) o))
 (Q .normal (St.mk (look [(0, s 0), (1, s 1), (5, s 5), (19, x1)]) o)))) := rfl
@[instance] theorem g_tree_parser_product_c0_u : UnfAt (wpB C I g_tree_parser_product.c0 (St.mk s o) Q) g_tree_parser_product_c0_sh := Unf.of _
theorem g_tree_parser_product_c1_sh : wpB C I (g_tree_parser_product.c1) (St.mk s o) Q =
 (demand ((buildN [V.d (.str []), V.d (.str []), V.d (.int .i64 0), V.d (.int .i64 0), V.d (.int .i64 0), V.d (.int .i64 0)] [(0, 1, (V.d (.str [42]))), (3, 1, (s 5)), (4, 1, (s 8))]).map V.agg) (fun x1 =>
callK C I (St.mk (upd (upd (upd (upd s 24 (s 0)) 25 (s 5)) 26 (s 8)) 27 x1) o) (some 28) 222 [(s 0), x1] (fun r2 or2 =>
Q .normal (St.mk (look [(0, s 0), (1, s 1), (5, r2)]) or2)))) := rfl
@[instance] theorem g_tree_parser_product_c1_u : UnfAt (wpB C I g_tree_parser_product.c1 (St.mk s o) Q) g_tree_parser_product_c1_sh := Unf.of _
theorem g_tree_parser_product_c2_sh : wpB C I (g_tree_parser_product.c2F R_c1) (St.mk s o) Q =
 (callK C I (St.mk (upd (upd s 21 (s 0)) 22 (s 1)) o) (some 23) 225 [(s 0), (s 1)] (fun r1 or1 =>
wpB C I R_c1 (St.mk (look [(0, s 0), (1, s 1), (5, s 5), (8, r1)]) or1) Q)) := rfl
@[instance] theorem g_tree_parser_product_c2_u : UnfAt (wpB C I g_tree_parser_product.c2 (St.mk s o) Q) g_tree_parser_product_c2_sh := Unf.of _
theorem g_tree_parser_product_l0_sh (hL : R_l0 = g_tree_parser_product.l0F R_c0 R_c2)
 (h : lstK (partsN 1 [(V.d (.str [42]))]) (fun es1 =>
callK C I (St.mk (upd (upd (look [(0, s 0), (1, s 1), (5, s 5)]) 13 (s 0)) 14 (V.d (D.sl es1))) o) (some 15) 219 [(s 0), (V.d (D.sl es1))] (fun r2 or2 =>
demand (extV r2 0) (fun x3 =>
demand (extV r2 1) (fun x4 =>
wpB C I R_c0 (St.mk (look [(0, s 0), (1, s 1), (5, s 5), (7, x4)]) or2) (seqK (fun st => wpB C I R_c2 st (blockK 1 [0, 1, 5] none (seqK (fun s => wpB C I R_l0 s Q) Q))) (blockK 1 [0, 1, 5] none (seqK (fun s => wpB C I R_l0 s Q) Q)))))))) : wpB C I R_l0 (St.mk s o) Q := w_loopC hL h
theorem g_tree_parser_product_c3_sh : wpB C I (g_tree_parser_product.c3F R_l0) (St.mk s o) Q =
 (wpB C I R_l0 (St.mk s o) (blockK 0 [4] none Q)) := rfl
@[instance] theorem g_tree_parser_product_c3_u : UnfAt (wpB C I g_tree_parser_product.c3 (St.mk s o) Q) g_tree_parser_product_c3_sh := Unf.of _
theorem g_tree_parser_product_code_sh : wpB C I (g_tree_parser_product.codeF R_c3) (St.mk s o) Q =
 (callK C I (St.mk (upd (upd (look [(0, s 0), (1, s 1)]) 9 (s 0)) 10 (s 1)) o) (some 11) 225 [(s 0), (s 1)] (fun r1 or1 =>
wpB C I R_c3 (St.mk (look [(0, s 0), (1, s 1), (5, r1)]) or1) Q)) := rfl
@[instance] theorem g_tree_parser_product_code_u : UnfAt (wpB C I g_tree_parser_product.code (St.mk s o) Q) g_tree_parser_product_code_sh := Unf.of _
theorem g_ref03_Text_code_sh : wpB C I (g_ref03_Text.code) (St.mk s o) Q =
 (callK C I (St.mk (upd (look [(0, s 0)]) 3 (s 0)) (looko ([].map fun n => (n, o n)))) (some 4) 54 [(s 0)] (fun r1 or1 =>
demand (binV BinOp.add r1 (V.d (.str [37]))) (fun x2 =>
Q .ret (St.mk (look [(2, x2)]) (looko ([].map fun n => (n, or1 n))))))) := rfl
@[instance] theorem g_ref03_Text_code_u : UnfAt (wpB C I g_ref03_Text.code (St.mk s o) Q) g_ref03_Text_code_sh := Unf.of _
theorem g_strings_CutSuffix_code_sh : wpB C I (g_strings_CutSuffix.code) (St.mk s o) Q =
 (callK C I (St.mk (upd (upd (look [(0, s 0), (1, s 1)]) 6 (s 0)) 7 (s 1)) (looko ([].map fun n => (n, o n)))) (some 8) 122 [(s 0), (s 1)] (fun r1 or1 =>
demand (extV r1 0) (fun x2 =>
demand (extV r1 1) (fun x3 =>
Q .ret (St.mk (look [(4, x2), (5, x3)]) (looko ([].map fun n => (n, or1 n)))))))) := rfl
@[instance] theorem g_strings_CutSuffix_code_u : UnfAt (wpB C I g_strings_CutSuffix.code (St.mk s o) Q) g_strings_CutSuffix_code_sh := Unf.of _
theorem g_rate_Right_o1_sh : opsB C I (g_rate_Right.o1) (St.mk s o) K =
 (demand (pickV (s 5) (s 7) (V.d (.bool false))) (fun x1 =>
K (St.mk (upd (upd s 8 x1) 2 x1) o))) := rfl
@[instance] theorem g_rate_Right_o1_u : UnfAt (opsB C I g_rate_Right.o1 (St.mk s o) K) g_rate_Right_o1_sh := Unf.of _
theorem g_rate_Right_o0_sh : opsB C I (g_rate_Right.o0F R_o1) (St.mk s o) K =
 (guardK (s 5) true
 (demand (binV BinOp.leq (s 0) (V.d (.int .i64 10000))) (fun x1 =>
opsB C I R_o1 (St.mk (look [(5, (V.d (D.bool true))), (7, x1)]) (looko ([].map fun n => (n, o n)))) K))
 (opsB C I R_o1 (St.mk (look [(5, (V.d (D.bool false))), (7, (V.tup []))]) (looko ([].map fun n => (n, o n)))) K)
 (opsB C I R_o1 (St.mk (look [(5, (V.tup [])), (7, (V.tup []))]) (looko ([].map fun n => (n, o n)))) K)) := rfl
@[instance] theorem g_rate_Right_o0_u : UnfAt (opsB C I g_rate_Right.o0 (St.mk s o) K) g_rate_Right_o0_sh := Unf.of _
theorem g_rate_Right_c0_sh : wpB C I (g_rate_Right.c0) (St.mk s o) Q =
 (Q .ret (St.mk s o)) := rfl
@[instance] theorem g_rate_Right_c0_u : UnfAt (wpB C I g_rate_Right.c0 (St.mk s o) Q) g_rate_Right_c0_sh := Unf.of _
theorem g_rate_Right_code_sh : wpB C I (g_rate_Right.codeF R_o0 R_c0) (St.mk s o) Q =
 (demand (binV BinOp.geq (s 0) (V.d (.int .i64 0))) (fun x1 =>
opsB C I R_o0 (St.mk (look [(0, s 0), (5, x1)]) (looko ([].map fun n => (n, o n)))) (fun st => (seqK (fun st => wpB C I R_c0 st Q) Q) .normal (St.trim st [2] (some []))))) := rfl
@[instance] theorem g_rate_Right_code_u : UnfAt (wpB C I g_rate_Right.code (St.mk s o) Q) g_rate_Right_code_sh := Unf.of _
theorem g_internal_stringslite_HasPrefix_o1_sh : opsB C I (g_internal_stringslite_HasPrefix.o1) (St.mk s o) K =
 (demand (pickV (s 10) (s 16) (V.d (.bool false))) (fun x1 =>
K (St.mk (upd (upd s 17 x1) 4 x1) o))) := rfl
@[instance] theorem g_internal_stringslite_HasPrefix_o1_u : UnfAt (opsB C I g_internal_stringslite_HasPrefix.o1 (St.mk s o) K) g_internal_stringslite_HasPrefix_o1_sh := Unf.of _
theorem g_internal_stringslite_HasPrefix_o0_sh : opsB C I (g_internal_stringslite_HasPrefix.o0F R_o1) (St.mk s o) K =
 (guardK (s 10) true
 (demand (lenSV (s 1)) (fun x1 =>
demand (slcSV (s 0) none (some x1)) (fun x2 =>
demand (binV BinOp.eql x2 (s 1)) (fun x3 =>
opsB C I R_o1 (St.mk (look [(10, (V.d (D.bool true))), (16, x3)]) (looko ([].map fun n => (n, o n)))) K))))
 (opsB C I R_o1 (St.mk (look [(10, (V.d (D.bool false))), (16, (V.tup []))]) (looko ([].map fun n => (n, o n)))) K)
 (opsB C I R_o1 (St.mk (look [(10, (V.tup [])), (16, (V.tup []))]) (looko ([].map fun n => (n, o n)))) K)) := rfl
@[instance] theorem g_internal_stringslite_HasPrefix_o0_u : UnfAt (opsB C I g_internal_stringslite_HasPrefix.o0 (St.mk s o) K) g_internal_stringslite_HasPrefix_o0_sh := Unf.of _
theorem g_internal_stringslite_HasPrefix_c0_sh : wpB C I (g_internal_stringslite_HasPrefix.c0) (St.mk s o) Q =
 (Q .ret (St.mk s o)) := rfl
@[instance] theorem g_internal_stringslite_HasPrefix_c0_u : UnfAt (wpB C I g_internal_stringslite_HasPrefix.c0 (St.mk s o) Q) g_internal_stringslite_HasPrefix_c0_sh := Unf.of _
theorem g_internal_stringslite_HasPrefix_code_sh : wpB C I (g_internal_stringslite_HasPrefix.codeF R_o0 R_c0) (St.mk s o) Q =
 (demand (lenSV (s 0)) (fun x1 =>
demand (lenSV (s 1)) (fun x2 =>
demand (binV BinOp.geq x1 x2) (fun x3 =>
opsB C I R_o0 (St.mk (look [(0, s 0), (1, s 1), (10, x3)]) (looko ([].map fun n => (n, o n)))) (fun st => (seqK (fun st => wpB C I R_c0 st Q) Q) .normal (St.trim st [4] (some []))))))) := rfl
@[instance] theorem g_internal_stringslite_HasPrefix_code_u : UnfAt (wpB C I g_internal_stringslite_HasPrefix.code (St.mk s o) Q) g_internal_stringslite_HasPrefix_code_sh := Unf.of _
theorem g_tree_parser_factor_c0_sh : wpB C I (g_tree_parser_factor.c0) (St.mk s o) Q =
 (condK (s 6)
 (demand (binV BinOp.add (s 1) (V.d (.int .i64 1))) (fun x1 =>
callK C I (St.mk (upd (upd (upd (upd (look [(0, s 0), (1, s 1), (27, s 6)]) 28 (s 0)) 29 (s 0)) 30 (s 1)) 31 x1) o) (some 32) 225 [(s 0), x1] (fun r2 or2 =>
demand ((buildN [V.d (.str []), V.d (.str []), V.d (.int .i64 0), V.d (.int .i64 0), V.d (.int .i64 0), V.d (.int .i64 0)] [(0, 1, (V.d (.str [110, 101, 103]))), (3, 1, r2)]).map V.agg) (fun x3 =>
callK C I (St.mk (upd (upd (upd (upd (upd (upd (look [(0, s 0), (1, s 1), (27, s 6)]) 28 (s 0)) 29 (s 0)) 30 (s 1)) 31 x1) 32 r2) 33 x3) or2) (some 34) 222 [(s 0), x3] (fun r4 or4 =>
Q .ret (St.mk (look [(4, r4)]) or4))))))
 (Q .normal (St.mk (look [(0, s 0), (1, s 1), (27, s 6)]) o))) := rfl
@[instance] theorem g_tree_parser_factor_c0_u : UnfAt (wpB C I g_tree_parser_factor.c0 (St.mk s o) Q) g_tree_parser_factor_c0_sh := Unf.of _
theorem g_tree_parser_factor_c1_sh : wpB C I (g_tree_parser_factor.c1) (St.mk s o) Q =
 (condK (s 8)
 (callK C I (St.mk (upd (upd (upd (look [(0, s 0), (1, s 1), (7, s 7), (41, s 8)]) 42 (s 0)) 43 (s 7)) 44 (s 1)) o) (some 45) 226 [(s 0), (s 7), (s 1)] (fun r1 or1 =>
Q .ret (St.mk (look [(4, r1)]) or1)))
 (Q .normal (St.mk (look [(0, s 0), (1, s 1), (7, s 7), (41, s 8)]) o))) := rfl
@[instance] theorem g_tree_parser_factor_c1_u : UnfAt (wpB C I g_tree_parser_factor.c1 (St.mk s o) Q) g_tree_parser_factor_c1_sh := Unf.of _
theorem g_tree_parser_factor_c2_sh : wpB C I (g_tree_parser_factor.c2) (St.mk s o) Q =
 (callK C I (St.mk (upd s 57 (s 0)) o) (some 58) 220 [(s 0), (V.d (.str [41]))] (fun r1 or1 =>
Q .ret (St.mk (look [(4, s 11)]) or1))) := rfl
@[instance] theorem g_tree_parser_factor_c2_u : UnfAt (wpB C I g_tree_parser_factor.c2 (St.mk s o) Q) g_tree_parser_factor_c2_sh := Unf.of _
theorem g_tree_parser_factor_c3_sh : wpB C I (g_tree_parser_factor.c3F R_c2) (St.mk s o) Q =
 (condK (s 10)
 (demand (binV BinOp.add (s 1) (V.d (.int .i64 1))) (fun x1 =>
callK C I (St.mk (upd (upd (upd (look [(0, s 0), (1, s 1), (52, s 10)]) 53 (s 0)) 54 (s 1)) 55 x1) o) (some 56) 221 [(s 0), x1] (fun r2 or2 =>
wpB C I R_c2 (St.mk (look [(0, s 0), (11, r2)]) or2) Q)))
 (Q .normal (St.mk (look [(0, s 0), (1, s 1), (52, s 10)]) o))) := rfl
@[instance] theorem g_tree_parser_factor_c3_u : UnfAt (wpB C I g_tree_parser_factor.c3 (St.mk s o) Q) g_tree_parser_factor_c3_sh := Unf.of _
theorem g_tree_parser_factor_c4_sh : wpB C I (g_tree_parser_factor.c4) (St.mk s o) Q =
 (callK C I (St.mk (upd s 60 (s 0)) o) (some 61) 227 [(s 0)] (fun r1 or1 =>
Q .ret (St.mk (look [(4, r1)]) or1))) := rfl
@[instance] theorem g_tree_parser_factor_c4_u : UnfAt (wpB C I g_tree_parser_factor.c4 (St.mk s o) Q) g_tree_parser_factor_c4_sh := Unf.of _
theorem g_tree_parser_factor_c5_sh : wpB C I (g_tree_parser_factor.c5F R_c3 R_c4) (St.mk s o) Q =
 (lstK (partsN 1 [(V.d (.str [40]))]) (fun es1 =>
callK C I (St.mk (upd (upd s 47 (s 0)) 48 (V.d (D.sl es1))) o) (some 49) 219 [(s 0), (V.d (D.sl es1))] (fun r2 or2 =>
demand (extV r2 0) (fun x3 =>
demand (extV r2 1) (fun x4 =>
wpB C I R_c3 (St.mk (look [(0, s 0), (1, s 1), (10, x4)]) or2) (seqK (fun st => wpB C I R_c4 st Q) Q)))))) := rfl
@[instance] theorem g_tree_parser_factor_c5_u : UnfAt (wpB C I g_tree_parser_factor.c5 (St.mk s o) Q) g_tree_parser_factor_c5_sh := Unf.of _
theorem g_tree_parser_factor_c6_sh : wpB C I (g_tree_parser_factor.c6F R_c1 R_c5) (St.mk s o) Q =
 (lstK (partsN 1 [(V.d (.str [109, 105, 110])), (V.d (.str [109, 97, 120]))]) (fun es1 =>
callK C I (St.mk (upd (upd s 36 (s 0)) 37 (V.d (D.sl es1))) o) (some 38) 219 [(s 0), (V.d (D.sl es1))] (fun r2 or2 =>
demand (extV r2 0) (fun x3 =>
demand (extV r2 1) (fun x4 =>
wpB C I R_c1 (St.mk (look [(0, s 0), (1, s 1), (7, x3), (8, x4)]) or2) (seqK (fun st => wpB C I R_c5 st Q) Q)))))) := rfl
@[instance] theorem g_tree_parser_factor_c6_u : UnfAt (wpB C I g_tree_parser_factor.c6 (St.mk s o) Q) g_tree_parser_factor_c6_sh := Unf.of _
theorem g_tree_parser_factor_c7_sh : wpB C I (g_tree_parser_factor.c7F R_c0 R_c6) (St.mk s o) Q =
 (lstK (partsN 1 [(V.d (.str [45]))]) (fun es1 =>
callK C I (St.mk (upd (upd s 22 (s 0)) 23 (V.d (D.sl es1))) o) (some 24) 219 [(s 0), (V.d (D.sl es1))] (fun r2 or2 =>
demand (extV r2 0) (fun x3 =>
demand (extV r2 1) (fun x4 =>
wpB C I R_c0 (St.mk (look [(0, s 0), (1, s 1), (6, x4)]) or2) (seqK (fun st => wpB C I R_c6 st Q) Q)))))) := rfl
@[instance] theorem g_tree_parser_factor_c7_u : UnfAt (wpB C I g_tree_parser_factor.c7 (St.mk s o) Q) g_tree_parser_factor_c7_sh := Unf.of _
theorem g_tree_parser_factor_c8_sh : wpB C I (g_tree_parser_factor.c8F R_c7) (St.mk s o) Q =
 (demand (nilcV (s 0)) (fun x1 =>
demand (faddrV 5 x1) (fun x2 =>
demand (loadV o none x2) (fun x3 =>
demand (binV BinOp.neq x3 (V.d (.int .i64 0))) (fun x4 =>
condK x4
 (Q .ret (St.mk (look [(4, (V.d (.int .i64 0)))]) o))
 (wpB C I R_c7 (St.mk (look [(0, s 0), (1, s 1), (20, x4)]) o) Q)))))) := rfl
@[instance] theorem g_tree_parser_factor_c8_u : UnfAt (wpB C I g_tree_parser_factor.c8 (St.mk s o) Q) g_tree_parser_factor_c8_sh := Unf.of _
theorem g_tree_parser_factor_code_sh : wpB C I (g_tree_parser_factor.codeF R_c8) (St.mk s o) Q =
 (demand (binV BinOp.gtr (s 1) (V.d (.int .i64 20))) (fun x1 =>
condK x1
 (callK C I (St.mk (upd (look [(0, s 0), (1, s 1), (13, x1)]) 14 (s 0)) o) (some 15) 218 [(s 0), (V.d (.int .i64 9))] (fun r2 or2 =>
wpB C I R_c8 (St.mk (look [(0, s 0), (1, s 1)]) or2) Q))
 (wpB C I R_c8 (St.mk (look [(0, s 0), (1, s 1), (13, x1)]) o) Q))) := rfl
@[instance] theorem g_tree_parser_factor_code_u : UnfAt (wpB C I g_tree_parser_factor.code (St.mk s o) Q) g_tree_parser_factor_code_sh := Unf.of _
theorem g_internal_stringslite_CutSuffix_c0_sh : wpB C I (g_internal_stringslite_CutSuffix.c0) (St.mk s o) Q =
 (demand (lenSV (s 0)) (fun x1 =>
demand (lenSV (s 1)) (fun x2 =>
demand (binV BinOp.sub x1 x2) (fun x3 =>
demand (slcSV (s 0) none (some x3)) (fun x4 =>
Q .ret (St.mk (look [(4, x4), (5, (V.d (.bool true)))]) (looko ([].map fun n => (n, o n))))))))) := rfl
@[instance] theorem g_internal_stringslite_CutSuffix_c0_u : UnfAt (wpB C I g_internal_stringslite_CutSuffix.c0 (St.mk s o) Q) g_internal_stringslite_CutSuffix_c0_sh := Unf.of _
theorem g_internal_stringslite_CutSuffix_code_sh : wpB C I (g_internal_stringslite_CutSuffix.codeF R_c0) (St.mk s o) Q =
 (callK C I (St.mk (upd (upd (look [(0, s 0), (1, s 1)]) 6 (s 0)) 7 (s 1)) (looko ([].map fun n => (n, o n)))) (some 8) 141 [(s 0), (s 1)] (fun r1 or1 =>
demand (unV UnOp.not r1) (fun x2 =>
condK x2
 (Q .ret (St.mk (look [(4, s 0), (5, (V.d (.bool false)))]) (looko ([].map fun n => (n, or1 n)))))
 (wpB C I R_c0 (St.mk (look [(0, s 0), (1, s 1), (9, x2)]) (looko ([].map fun n => (n, or1 n)))) Q)))) := rfl
@[instance] theorem g_internal_stringslite_CutSuffix_code_u : UnfAt (wpB C I g_internal_stringslite_CutSuffix.code (St.mk s o) Q) g_internal_stringslite_CutSuffix_code_sh := Unf.of _
theorem g_tree_parser_pair_c0_sh : wpB C I (g_tree_parser_pair.c0) (St.mk s o) Q =
 (callK C I (St.mk (upd s 21 (s 0)) o) (some 22) 220 [(s 0), (V.d (.str [41]))] (fun r1 or1 =>
demand ((buildN [V.d (.str []), V.d (.str []), V.d (.int .i64 0), V.d (.int .i64 0), V.d (.int .i64 0), V.d (.int .i64 0)] [(0, 1, (s 1)), (3, 1, (s 7)), (4, 1, (s 8))]).map V.agg) (fun x2 =>
callK C I (St.mk (upd (upd (upd (upd (upd (look [(0, s 0), (1, s 1), (7, s 7), (8, s 8)]) 23 (s 0)) 24 (s 1)) 25 (s 7)) 26 (s 8)) 27 x2) or1) (some 28) 222 [(s 0), x2] (fun r3 or3 =>
Q .ret (St.mk (look [(6, r3)]) or3))))) := rfl
@[instance] theorem g_tree_parser_pair_c0_u : UnfAt (wpB C I g_tree_parser_pair.c0 (St.mk s o) Q) g_tree_parser_pair_c0_sh := Unf.of _
theorem g_tree_parser_pair_c1_sh : wpB C I (g_tree_parser_pair.c1F R_c0) (St.mk s o) Q =
 (callK C I (St.mk (upd s 15 (s 0)) o) (some 16) 220 [(s 0), (V.d (.str [44]))] (fun r1 or1 =>
demand (binV BinOp.add (s 2) (V.d (.int .i64 1))) (fun x2 =>
callK C I (St.mk (upd (upd (upd (look [(0, s 0), (1, s 1), (2, s 2), (7, s 7)]) 17 (s 0)) 18 (s 2)) 19 x2) or1) (some 20) 221 [(s 0), x2] (fun r3 or3 =>
wpB C I R_c0 (St.mk (look [(0, s 0), (1, s 1), (7, s 7), (8, r3)]) or3) Q)))) := rfl
@[instance] theorem g_tree_parser_pair_c1_u : UnfAt (wpB C I g_tree_parser_pair.c1 (St.mk s o) Q) g_tree_parser_pair_c1_sh := Unf.of _
theorem g_tree_parser_pair_code_sh : wpB C I (g_tree_parser_pair.codeF R_c1) (St.mk s o) Q =
 (callK C I (St.mk (upd (look [(0, s 0), (1, s 1), (2, s 2)]) 9 (s 0)) o) (some 10) 220 [(s 0), (V.d (.str [40]))] (fun r1 or1 =>
demand (binV BinOp.add (s 2) (V.d (.int .i64 1))) (fun x2 =>
callK C I (St.mk (upd (upd (upd (look [(0, s 0), (1, s 1), (2, s 2)]) 11 (s 0)) 12 (s 2)) 13 x2) or1) (some 14) 221 [(s 0), x2] (fun r3 or3 =>
wpB C I R_c1 (St.mk (look [(0, s 0), (1, s 1), (2, s 2), (7, r3)]) or3) Q)))) := rfl
@[instance] theorem g_tree_parser_pair_code_u : UnfAt (wpB C I g_tree_parser_pair.code (St.mk s o) Q) g_tree_parser_pair_code_sh := Unf.of _
theorem g_tree_parser_leaf_c0_sh : wpB C I (g_tree_parser_leaf.c0) (St.mk s o) Q =
 (demand ((buildN [V.d (.str []), V.d (.str []), V.d (.int .i64 0), V.d (.int .i64 0), V.d (.int .i64 0), V.d (.int .i64 0)] [(0, 1, (V.d (.str [119, 104, 111, 108, 101]))), (2, 1, (s 5))]).map V.agg) (fun x1 =>
storeK (s 4) (cellsV x1) 6 o (fun m2 ob3 =>
Q .normal (St.mk (look [(0, s 0), (3, s 3), (4, s 4)]) (upd o m2 (some ob3)))))) := rfl
@[instance] theorem g_tree_parser_leaf_c0_u : UnfAt (wpB C I g_tree_parser_leaf.c0 (St.mk s o) Q) g_tree_parser_leaf_c0_sh := Unf.of _
theorem g_tree_parser_leaf_c1_sh : wpB C I (g_tree_parser_leaf.c1) (St.mk s o) Q =
 (demand ((buildN [V.d (.str []), V.d (.str []), V.d (.int .i64 0), V.d (.int .i64 0), V.d (.int .i64 0), V.d (.int .i64 0)] [(0, 1, (V.d (.str [97, 109, 111, 117, 110, 116]))), (2, 1, (s 7))]).map V.agg) (fun x1 =>
storeK (s 4) (cellsV x1) 6 o (fun m2 ob3 =>
Q .normal (St.mk (look [(0, s 0), (3, s 3), (4, s 4)]) (upd o m2 (some ob3)))))) := rfl
@[instance] theorem g_tree_parser_leaf_c1_u : UnfAt (wpB C I g_tree_parser_leaf.c1 (St.mk s o) Q) g_tree_parser_leaf_c1_sh := Unf.of _
theorem g_tree_parser_leaf_c2_sh : wpB C I (g_tree_parser_leaf.c2) (St.mk s o) Q =
 (demand ((buildN [V.d (.str []), V.d (.str []), V.d (.int .i64 0), V.d (.int .i64 0), V.d (.int .i64 0), V.d (.int .i64 0)] [(0, 1, (V.d (.str [114, 97, 116, 101]))), (2, 1, (s 9))]).map V.agg) (fun x1 =>
storeK (s 4) (cellsV x1) 6 o (fun m2 ob3 =>
Q .normal (St.mk (look [(0, s 0), (3, s 3), (4, s 4)]) (upd o m2 (some ob3)))))) := rfl
@[instance] theorem g_tree_parser_leaf_c2_u : UnfAt (wpB C I g_tree_parser_leaf.c2 (St.mk s o) Q) g_tree_parser_leaf_c2_sh := Unf.of _
theorem g_tree_parser_leaf_o3_sh : opsB C I (g_tree_parser_leaf.o3) (St.mk s o) K =
 (demand (pickV (s 54) (V.d (.bool true)) (s 63)) (fun x1 =>
K (St.mk (upd s 64 x1) o))) := rfl
@[instance] theorem g_tree_parser_leaf_o3_u : UnfAt (opsB C I g_tree_parser_leaf.o3 (St.mk s o) K) g_tree_parser_leaf_o3_sh := Unf.of _
theorem g_tree_parser_leaf_o2_sh : opsB C I (g_tree_parser_leaf.o2F R_o3) (St.mk s o) K =
 (guardK (s 54) false
 (demand (pickV (s 58) (s 62) (V.d (.bool false))) (fun x1 =>
opsB C I R_o3 (St.mk (look [(0, s 0), (4, s 4), (54, (V.d (D.bool false))), (63, x1)]) o) K))
 (opsB C I R_o3 (St.mk (look [(0, s 0), (4, s 4), (54, (V.d (D.bool true))), (63, (V.tup []))]) o) K)
 (opsB C I R_o3 (St.mk (look [(0, s 0), (4, s 4), (54, (V.tup [])), (63, (V.tup []))]) o) K)) := rfl
@[instance] theorem g_tree_parser_leaf_o2_u : UnfAt (opsB C I g_tree_parser_leaf.o2 (St.mk s o) K) g_tree_parser_leaf_o2_sh := Unf.of _
theorem g_tree_parser_leaf_o1_sh : opsB C I (g_tree_parser_leaf.o1F R_o2) (St.mk s o) K =
 (guardK (s 58) true
 (demand (faddrV 1 (s 3)) (fun x1 =>
demand (loadV o none x1) (fun x2 =>
callK C I (St.mk (upd (upd (upd (upd (upd s 58 (V.d (D.bool true))) 59 x1) 58 (V.d (D.bool true))) 60 x2) 58 (V.d (D.bool true))) o) (some 61) 158 [x2] (fun r3 or3 =>
demand (unV UnOp.not r3) (fun x4 =>
opsB C I R_o2 (St.mk (look [(0, s 0), (4, s 4), (54, s 54), (58, (V.d (D.bool true))), (62, x4)]) or3) K)))))
 (opsB C I R_o2 (St.mk (look [(0, s 0), (4, s 4), (54, s 54), (58, (V.d (D.bool false))), (62, (V.tup []))]) o) K)
 (opsB C I R_o2 (St.mk (look [(0, s 0), (4, s 4), (54, s 54), (58, (V.tup [])), (62, (V.tup []))]) o) K)) := rfl
@[instance] theorem g_tree_parser_leaf_o1_u : UnfAt (opsB C I g_tree_parser_leaf.o1 (St.mk s o) K) g_tree_parser_leaf_o1_sh := Unf.of _
theorem g_tree_parser_leaf_o0_sh : opsB C I (g_tree_parser_leaf.o0F R_o1) (St.mk s o) K =
 (guardK (s 54) false
 (demand (faddrV 0 (s 4)) (fun x1 =>
demand (loadV o none x1) (fun x2 =>
demand (binV BinOp.eql x2 (V.d (.str [110, 97, 109, 101]))) (fun x3 =>
opsB C I R_o1 (St.mk (look [(0, s 0), (3, s 3), (4, s 4), (54, (V.d (D.bool false))), (58, x3)]) o) K))))
 (opsB C I R_o1 (St.mk (look [(0, s 0), (3, s 3), (4, s 4), (54, (V.d (D.bool true))), (58, (V.tup []))]) o) K)
 (opsB C I R_o1 (St.mk (look [(0, s 0), (3, s 3), (4, s 4), (54, (V.tup [])), (58, (V.tup []))]) o) K)) := rfl
@[instance] theorem g_tree_parser_leaf_o0_u : UnfAt (opsB C I g_tree_parser_leaf.o0 (St.mk s o) K) g_tree_parser_leaf_o0_sh := Unf.of _
theorem g_tree_parser_leaf_c3_sh : wpB C I (g_tree_parser_leaf.c3) (St.mk s o) Q =
 (condK (s 64)
 (callK C I (St.mk (upd s 65 (s 0)) o) (some 66) 218 [(s 0), (V.d (.int .i64 2))] (fun r1 or1 =>
Q .ret (St.mk (look [(2, (V.d (.int .i64 0)))]) or1)))
 (Q .normal (St.mk s o))) := rfl
@[instance] theorem g_tree_parser_leaf_c3_u : UnfAt (wpB C I g_tree_parser_leaf.c3 (St.mk s o) Q) g_tree_parser_leaf_c3_sh := Unf.of _
theorem g_tree_parser_leaf_c4_sh : wpB C I (g_tree_parser_leaf.c4) (St.mk s o) Q =
 (demand (loadV o (some 6) (s 4)) (fun x1 =>
callK C I (St.mk (upd (upd s 74 (s 0)) 75 x1) o) (some 76) 222 [(s 0), x1] (fun r2 or2 =>
Q .ret (St.mk (look [(2, r2)]) or2)))) := rfl
@[instance] theorem g_tree_parser_leaf_c4_u : UnfAt (wpB C I g_tree_parser_leaf.c4 (St.mk s o) Q) g_tree_parser_leaf_c4_sh := Unf.of _
theorem g_tree_parser_leaf_c5_sh : wpB C I (g_tree_parser_leaf.c5F R_c4) (St.mk s o) Q =
 (demand (nilcV (s 0)) (fun x1 =>
demand (faddrV 2 x1) (fun x2 =>
demand (loadV o none x2) (fun x3 =>
demand (binV BinOp.add x3 (V.d (.int .i64 1))) (fun x4 =>
demand (nilcV (s 0)) (fun x5 =>
demand (faddrV 2 x5) (fun x6 =>
storeK x6 (cellsV x4) 1 o (fun m7 ob8 =>
wpB C I R_c4 (St.mk (look [(0, s 0), (4, s 4)]) (upd o m7 (some ob8))) Q)))))))) := rfl
@[instance] theorem g_tree_parser_leaf_c5_u : UnfAt (wpB C I g_tree_parser_leaf.c5 (St.mk s o) Q) g_tree_parser_leaf_c5_sh := Unf.of _
theorem g_tree_parser_leaf_c6_sh : wpB C I (g_tree_parser_leaf.c6F R_o0 R_c3 R_c5) (St.mk s o) Q =
 (demand (faddrV 0 (s 4)) (fun x1 =>
demand (loadV o none x1) (fun x2 =>
demand (binV BinOp.eql x2 (V.d (.str []))) (fun x3 =>
opsB C I R_o0 (St.mk (look [(0, s 0), (3, s 3), (4, s 4), (54, x3)]) o) (fun st => (seqK (fun st => wpB C I R_c3 st (seqK (fun st => wpB C I R_c5 st Q) Q)) (seqK (fun st => wpB C I R_c5 st Q) Q)) .normal (St.trim st [0, 4, 64] none)))))) := rfl
@[instance] theorem g_tree_parser_leaf_c6_u : UnfAt (wpB C I g_tree_parser_leaf.c6 (St.mk s o) Q) g_tree_parser_leaf_c6_sh := Unf.of _
theorem g_tree_parser_leaf_c7_sh : wpB C I (g_tree_parser_leaf.c7F R_c0 R_c1 R_c2 R_c6) (St.mk s o) Q =
 (demand ((buildN [V.d (.str []), V.d (.str []), V.d (.int .i64 0), V.d (.int .i64 0), V.d (.int .i64 0), V.d (.int .i64 0)] []).map V.agg) (fun x1 =>
(¬ I 4 ∧ Fresh (St.mk (upd s 13 x1) o) 4 (some 4) ∧ V.refsL 4 [V.d (.str []), V.d (.str []), V.d (.int .i64 0), V.d (.int .i64 0), V.d (.int .i64 0), V.d (.int .i64 0)] = false ∧
storeK (V.ptr 4 0) (cellsV x1) 6 (upd o 4 (some (Ob.box [V.d (.str []), V.d (.str []), V.d (.int .i64 0), V.d (.int .i64 0), V.d (.int .i64 0), V.d (.int .i64 0)]))) (fun m2 ob3 =>
demand (faddrV 0 (s 3)) (fun x4 =>
demand (loadV (upd (upd o 4 (some (Ob.box [V.d (.str []), V.d (.str []), V.d (.int .i64 0), V.d (.int .i64 0), V.d (.int .i64 0), V.d (.int .i64 0)]))) m2 (some ob3)) none x4) (fun x5 =>
demand (binV BinOp.eql x5 (V.d (.int .i64 2))) (fun x6 =>
condK x6
 (demand (faddrV 1 (s 3)) (fun x7 =>
demand (loadV (upd (upd o 4 (some (Ob.box [V.d (.str []), V.d (.str []), V.d (.int .i64 0), V.d (.int .i64 0), V.d (.int .i64 0), V.d (.int .i64 0)]))) m2 (some ob3)) none x7) (fun x8 =>
callK C I (St.mk (upd (upd (look [(0, s 0), (3, s 3), (4, (V.ptr 4 0)), (15, x5), (16, x6)]) 19 x7) 20 x8) (upd (upd o 4 (some (Ob.box [V.d (.str []), V.d (.str []), V.d (.int .i64 0), V.d (.int .i64 0), V.d (.int .i64 0), V.d (.int .i64 0)]))) m2 (some ob3))) (some 21) 70 [x8] (fun r9 or9 =>
demand (extV r9 0) (fun x10 =>
demand (extV r9 1) (fun x11 =>
wpB C I R_c0 (St.mk (look [(0, s 0), (3, s 3), (4, (V.ptr 4 0)), (5, x10)]) or9) (blockK 0 [0, 3, 4] none (seqK (fun st => wpB C I R_c6 st Q) Q))))))))
 (demand (binV BinOp.eql x5 (V.d (.int .i64 3))) (fun x12 =>
condK x12
 (demand (faddrV 1 (s 3)) (fun x13 =>
demand (loadV (upd (upd o 4 (some (Ob.box [V.d (.str []), V.d (.str []), V.d (.int .i64 0), V.d (.int .i64 0), V.d (.int .i64 0), V.d (.int .i64 0)]))) m2 (some ob3)) none x13) (fun x14 =>
callK C I (St.mk (upd (upd (look [(0, s 0), (3, s 3), (4, (V.ptr 4 0)), (15, x5), (26, x12)]) 29 x13) 30 x14) (upd (upd o 4 (some (Ob.box [V.d (.str []), V.d (.str []), V.d (.int .i64 0), V.d (.int .i64 0), V.d (.int .i64 0), V.d (.int .i64 0)]))) m2 (some ob3))) (some 31) 51 [x14] (fun r15 or15 =>
demand (extV r15 0) (fun x16 =>
demand (extV r15 1) (fun x17 =>
wpB C I R_c1 (St.mk (look [(0, s 0), (3, s 3), (4, (V.ptr 4 0)), (7, x16)]) or15) (blockK 0 [0, 3, 4] none (seqK (fun st => wpB C I R_c6 st Q) Q))))))))
 (demand (binV BinOp.eql x5 (V.d (.int .i64 4))) (fun x18 =>
condK x18
 (demand (faddrV 1 (s 3)) (fun x19 =>
demand (loadV (upd (upd o 4 (some (Ob.box [V.d (.str []), V.d (.str []), V.d (.int .i64 0), V.d (.int .i64 0), V.d (.int .i64 0), V.d (.int .i64 0)]))) m2 (some ob3)) none x19) (fun x20 =>
callK C I (St.mk (upd (upd (look [(0, s 0), (3, s 3), (4, (V.ptr 4 0)), (15, x5), (36, x18)]) 39 x19) 40 x20) (upd (upd o 4 (some (Ob.box [V.d (.str []), V.d (.str []), V.d (.int .i64 0), V.d (.int .i64 0), V.d (.int .i64 0), V.d (.int .i64 0)]))) m2 (some ob3))) (some 41) 92 [x20] (fun r21 or21 =>
demand (extV r21 0) (fun x22 =>
demand (extV r21 1) (fun x23 =>
wpB C I R_c2 (St.mk (look [(0, s 0), (3, s 3), (4, (V.ptr 4 0)), (9, x22)]) or21) (blockK 0 [0, 3, 4] none (seqK (fun st => wpB C I R_c6 st Q) Q))))))))
 (demand (binV BinOp.eql x5 (V.d (.int .i64 1))) (fun x24 =>
condK x24
 (demand (faddrV 1 (s 3)) (fun x25 =>
demand (loadV (upd (upd o 4 (some (Ob.box [V.d (.str []), V.d (.str []), V.d (.int .i64 0), V.d (.int .i64 0), V.d (.int .i64 0), V.d (.int .i64 0)]))) m2 (some ob3)) none x25) (fun x26 =>
demand ((buildN [V.d (.str []), V.d (.str []), V.d (.int .i64 0), V.d (.int .i64 0), V.d (.int .i64 0), V.d (.int .i64 0)] [(0, 1, (V.d (.str [110, 97, 109, 101]))), (1, 1, x26)]).map V.agg) (fun x27 =>
storeK (V.ptr 4 0) (cellsV x27) 6 (upd (upd o 4 (some (Ob.box [V.d (.str []), V.d (.str []), V.d (.int .i64 0), V.d (.int .i64 0), V.d (.int .i64 0), V.d (.int .i64 0)]))) m2 (some ob3)) (fun m28 ob29 =>
wpB C I R_c6 (St.mk (look [(0, s 0), (3, s 3), (4, (V.ptr 4 0))]) (upd (upd (upd o 4 (some (Ob.box [V.d (.str []), V.d (.str []), V.d (.int .i64 0), V.d (.int .i64 0), V.d (.int .i64 0), V.d (.int .i64 0)]))) m2 (some ob3)) m28 (some ob29))) Q)))))
 (wpB C I R_c6 (St.mk (look [(0, s 0), (3, s 3), (4, (V.ptr 4 0))]) (upd (upd o 4 (some (Ob.box [V.d (.str []), V.d (.str []), V.d (.int .i64 0), V.d (.int .i64 0), V.d (.int .i64 0), V.d (.int .i64 0)]))) m2 (some ob3))) Q)))))))))))))) := rfl
@[instance] theorem g_tree_parser_leaf_c7_u : UnfAt (wpB C I g_tree_parser_leaf.c7 (St.mk s o) Q) g_tree_parser_leaf_c7_sh := Unf.of _
theorem g_tree_parser_leaf_code_sh : wpB C I (g_tree_parser_leaf.codeF R_c7) (St.mk s o) Q =
 (callK C I (St.mk (upd (look [(0, s 0)]) 11 (s 0)) o) (some 12) 217 [(s 0)] (fun r1 or1 =>
(¬ I 3 ∧ Fresh (St.mk (upd (upd (look [(0, s 0)]) 11 (s 0)) 12 r1) or1) 3 (some 3) ∧ V.refsL 3 [V.d (.int .i64 0), V.d (.str []), V.d (.int .i64 0)] = false ∧
storeK (V.ptr 3 0) (cellsV r1) 3 (upd or1 3 (some (Ob.box [V.d (.int .i64 0), V.d (.str []), V.d (.int .i64 0)]))) (fun m2 ob3 =>
wpB C I R_c7 (St.mk (look [(0, s 0), (3, (V.ptr 3 0))]) (upd (upd or1 3 (some (Ob.box [V.d (.int .i64 0), V.d (.str []), V.d (.int .i64 0)]))) m2 (some ob3))) Q)))) := rfl
@[instance] theorem g_tree_parser_leaf_code_u : UnfAt (wpB C I g_tree_parser_leaf.code (St.mk s o) Q) g_tree_parser_leaf_code_sh := Unf.of _
end Pay
