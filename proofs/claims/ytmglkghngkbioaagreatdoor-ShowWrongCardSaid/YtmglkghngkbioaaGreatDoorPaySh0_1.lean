/- What the code of the functions comes to, without slots: an equation for each part; no condition. -/
import Derived.Test.YtmglkghngkbioaaGreatDoorPayBb0
import Derived.Test.YtmglkghngkbioaaGreatDoorPayCode0_0
set_option maxRecDepth 20000
set_option maxHeartbeats 400000
set_option linter.unusedVariables false
namespace Pay
open Go
variable {R_c0 R_c1 R_c2 R_c3 R_c4 R_c5 R_c6 R_c7 : ACode} {R_o0 R_o1 R_o2 R_o3 : List AOper} {C : Ctx} {I : Nat → Prop} {s : Nat → V} {o : Nat → Option Ob} {K : St → Prop} {Q : Ex → St → Prop}
theorem g_tree_parser_pair_c1_sh : wpB C I (g_tree_parser_pair.c1F R_c0) (St.mk s o) Q =
 (callK C I (St.mk (upd s 15 (s 0)) o) (some 16) 220 [(s 0), (V.d (.str [44]))] (fun r1 or1 =>
demand (binV BinOp.add (s 2) (V.d (.int .i64 1))) (fun x2 =>
callK C I (St.mk (upd (upd (upd (look [(0, s 0), (1, s 1), (2, s 2), (7, s 7)]) 17 (s 0)) 18 (s 2)) 19 x2) or1) (some 20) 221 [(s 0), x2] (fun r3 or3 =>
wpB C I R_c0 (St.mk (look [(0, s 0), (1, s 1), (7, s 7), (8, r3)]) or3) Q)))) := rfl
@[instance] theorem g_tree_parser_pair_c1_u : UnfAt (wpB C I g_tree_parser_pair.c1 (St.mk s o) Q) g_tree_parser_pair_c1_sh := Unf.of _
theorem g_tree_parser_pair_code_sh : wpB C I (g_tree_parser_pair.codeF R_c1) (St.mk s o) Q =
 (callK C I (St.mk (upd (look [(0, s 0), (1, s 1), (2, s 2)]) 9 (s 0)) o) (some 10) 220 [(s 0), (V.d (.str [40]))] (fun r1 or1 =>
demand (binV BinOp.add (s 2) (V.d (.int .i64 1))) (fun x2 =>
callK C I (St.mk (upd (upd (upd (look [(0, s 0), (1, s 1), (2, s 2)]) 11 (s 0)) 12 (s 2)) 13 x2) or1) (some 14) 221 [(s 0), x2] (fun r3 or3 =>
wpB C I R_c1 (St.mk (look [(0, s 0), (1, s 1), (2, s 2), (7, r3)]) or3) Q)))) := rfl
@[instance] theorem g_tree_parser_pair_code_u : UnfAt (wpB C I g_tree_parser_pair.code (St.mk s o) Q) g_tree_parser_pair_code_sh := Unf.of _
theorem g_tree_parser_leaf_c0_sh : wpB C I (g_tree_parser_leaf.c0) (St.mk s o) Q =
 (demand ((buildN [V.d (.str []), V.d (.str []), V.d (.int .i64 0), V.d (.int .i64 0), V.d (.int .i64 0), V.d (.int .i64 0)] [(0, 1, (V.d (.str [119, 104, 111, 108, 101]))), (2, 1, (s 5))]).map V.agg) (fun x1 =>
storeK (s 4) (cellsV x1) 6 o (fun m2 ob3 =>
Q .normal (St.mk (look [(0, s 0), (3, s 3), (4, s 4)]) (upd o m2 (some ob3)))))) := rfl
@[instance] theorem g_tree_parser_leaf_c0_u : UnfAt (wpB C I g_tree_parser_leaf.c0 (St.mk s o) Q) g_tree_parser_leaf_c0_sh := Unf.of _
theorem g_tree_parser_leaf_c1_sh : wpB C I (g_tree_parser_leaf.c1) (St.mk s o) Q =
 (demand ((buildN [V.d (.str []), V.d (.str []), V.d (.int .i64 0), V.d (.int .i64 0), V.d (.int .i64 0), V.d (.int .i64 0)] [(0, 1, (V.d (.str [97, 109, 111, 117, 110, 116]))), (2, 1, (s 7))]).map V.agg) (fun x1 =>
storeK (s 4) (cellsV x1) 6 o (fun m2 ob3 =>
Q .normal (St.mk (look [(0, s 0), (3, s 3), (4, s 4)]) (upd o m2 (some ob3)))))) := rfl
@[instance] theorem g_tree_parser_leaf_c1_u : UnfAt (wpB C I g_tree_parser_leaf.c1 (St.mk s o) Q) g_tree_parser_leaf_c1_sh := Unf.of _
theorem g_tree_parser_leaf_c2_sh : wpB C I (g_tree_parser_leaf.c2) (St.mk s o) Q =
 (demand ((buildN [V.d (.str []), V.d (.str []), V.d (.int .i64 0), V.d (.int .i64 0), V.d (.int .i64 0), V.d (.int .i64 0)] [(0, 1, (V.d (.str [114, 97, 116, 101]))), (2, 1, (s 9))]).map V.agg) (fun x1 =>
storeK (s 4) (cellsV x1) 6 o (fun m2 ob3 =>
Q .normal (St.mk (look [(0, s 0), (3, s 3), (4, s 4)]) (upd o m2 (some ob3)))))) := rfl
@[instance] theorem g_tree_parser_leaf_c2_u : UnfAt (wpB C I g_tree_parser_leaf.c2 (St.mk s o) Q) g_tree_parser_leaf_c2_sh := Unf.of _
theorem g_tree_parser_leaf_o3_sh : opsB C I (g_tree_parser_leaf.o3) (St.mk s o) K =
 (demand (pickV (s 54) (V.d (.bool true)) (s 63)) (fun x1 =>
K (St.mk (upd s 64 x1) o))) := rfl
@[instance] theorem g_tree_parser_leaf_o3_u : UnfAt (opsB C I g_tree_parser_leaf.o3 (St.mk s o) K) g_tree_parser_leaf_o3_sh := Unf.of _
theorem g_tree_parser_leaf_o2_sh : opsB C I (g_tree_parser_leaf.o2F R_o3) (St.mk s o) K =
 (guardK (s 54) false
 (demand (pickV (s 58) (s 62) (V.d (.bool false))) (fun x1 =>
opsB C I R_o3 (St.mk (look [(0, s 0), (4, s 4), (54, (V.d (D.bool false))), (63, x1)]) o) K))
 (opsB C I R_o3 (St.mk (look [(0, s 0), (4, s 4), (54, (V.d (D.bool true))), (63, (V.tup []))]) o) K)
 (opsB C I R_o3 (St.mk (look [(0, s 0), (4, s 4), (54, (V.tup [])), (63, (V.tup []))]) o) K)) := rfl
@[instance] theorem g_tree_parser_leaf_o2_u : UnfAt (opsB C I g_tree_parser_leaf.o2 (St.mk s o) K) g_tree_parser_leaf_o2_sh := Unf.of _
theorem g_tree_parser_leaf_o1_sh : opsB C I (g_tree_parser_leaf.o1F R_o2) (St.mk s o) K =
 (guardK (s 58) true
 (demand (faddrV 1 (s 3)) (fun x1 =>
demand (loadV o none x1) (fun x2 =>
callK C I (St.mk (upd (upd (upd (upd (upd s 58 (V.d (D.bool true))) 59 x1) 58 (V.d (D.bool true))) 60 x2) 58 (V.d (D.bool true))) o) (some 61) 158 [x2] (fun r3 or3 =>
demand (unV UnOp.not r3) (fun x4 =>
opsB C I R_o2 (St.mk (look [(0, s 0), (4, s 4), (54, s 54), (58, (V.d (D.bool true))), (62, x4)]) or3) K)))))
 (opsB C I R_o2 (St.mk (look [(0, s 0), (4, s 4), (54, s 54), (58, (V.d (D.bool false))), (62, (V.tup []))]) o) K)
 (opsB C I R_o2 (St.mk (look [(0, s 0), (4, s 4), (54, s 54), (58, (V.tup [])), (62, (V.tup []))]) o) K)) := rfl
@[instance] theorem g_tree_parser_leaf_o1_u : UnfAt (opsB C I g_tree_parser_leaf.o1 (St.mk s o) K) g_tree_parser_leaf_o1_sh := Unf.of _
theorem g_tree_parser_leaf_o0_sh : opsB C I (g_tree_parser_leaf.o0F R_o1) (St.mk s o) K =
 (guardK (s 54) false
 (demand (faddrV 0 (s 4)) (fun x1 =>
demand (loadV o none x1) (fun x2 =>
demand (binV BinOp.eql x2 (V.d (.str [110, 97, 109, 101]))) (fun x3 =>
opsB C I R_o1 (St.mk (look [(0, s 0), (3, s 3), (4, s 4), (54, (V.d (D.bool false))), (58, x3)]) o) K))))
 (opsB C I R_o1 (St.mk (look [(0, s 0), (3, s 3), (4, s 4), (54, (V.d (D.bool true))), (58, (V.tup []))]) o) K)
 (opsB C I R_o1 (St.mk (look [(0, s 0), (3, s 3), (4, s 4), (54, (V.tup [])), (58, (V.tup []))]) o) K)) := rfl
@[instance] theorem g_tree_parser_leaf_o0_u : UnfAt (opsB C I g_tree_parser_leaf.o0 (St.mk s o) K) g_tree_parser_leaf_o0_sh := Unf.of _
theorem g_tree_parser_leaf_c3_sh : wpB C I (g_tree_parser_leaf.c3) (St.mk s o) Q =
 (condK (s 64)
 (callK C I (St.mk (upd s 65 (s 0)) o) (some 66) 218 [(s 0), (V.d (.int .i64 2))] (fun r1 or1 =>
Q .ret (St.mk (look [(2, (V.d (.int .i64 0)))]) or1)))
 (Q .normal (St.mk s o))) := rfl
@[instance] theorem g_tree_parser_leaf_c3_u : UnfAt (wpB C I g_tree_parser_leaf.c3 (St.mk s o) Q) g_tree_parser_leaf_c3_sh := Unf.of _
theorem g_tree_parser_leaf_c4_sh : wpB C I (g_tree_parser_leaf.c4) (St.mk s o) Q =
 (demand (loadV o (some 6) (s 4)) (fun x1 =>
callK C I (St.mk (upd (upd s 74 (s 0)) 75 x1) o) (some 76) 222 [(s 0), x1] (fun r2 or2 =>
Q .ret (St.mk (look [(2, r2)]) or2)))) := rfl
@[instance] theorem g_tree_parser_leaf_c4_u : UnfAt (wpB C I g_tree_parser_leaf.c4 (St.mk s o) Q) g_tree_parser_leaf_c4_sh := Unf.of _
theorem g_tree_parser_leaf_c5_sh : wpB C I (g_tree_parser_leaf.c5F R_c4) (St.mk s o) Q =
 (demand (nilcV (s 0)) (fun x1 =>
demand (faddrV 2 x1) (fun x2 =>
demand (loadV o none x2) (fun x3 =>
demand (binV BinOp.add x3 (V.d (.int .i64 1))) (fun x4 =>
demand (nilcV (s 0)) (fun x5 =>
demand (faddrV 2 x5) (fun x6 =>
storeK x6 (cellsV x4) 1 o (fun m7 ob8 =>
wpB C I R_c4 (St.mk (look [(0, s 0), (4, s 4)]) (upd o m7 (some ob8))) Q)))))))) := rfl
@[instance] theorem g_tree_parser_leaf_c5_u : UnfAt (wpB C I g_tree_parser_leaf.c5 (St.mk s o) Q) g_tree_parser_leaf_c5_sh := Unf.of _
theorem g_tree_parser_leaf_c6_sh : wpB C I (g_tree_parser_leaf.c6F R_o0 R_c3 R_c5) (St.mk s o) Q =
 (demand (faddrV 0 (s 4)) (fun x1 =>
demand (loadV o none x1) (fun x2 =>
demand (binV BinOp.eql x2 (V.d (.str []))) (fun x3 =>
opsB C I R_o0 (St.mk (look [(0, s 0), (3, s 3), (4, s 4), (54, x3)]) o) (fun st => (seqK (fun st => wpB C I R_c3 st (seqK (fun st => wpB C I R_c5 st Q) Q)) (seqK (fun st => wpB C I R_c5 st Q) Q)) .normal (St.trim st [0, 4, 64] none)))))) := rfl
@[instance] theorem g_tree_parser_leaf_c6_u : UnfAt (wpB C I g_tree_parser_leaf.c6 (St.mk s o) Q) g_tree_parser_leaf_c6_sh := Unf.of _
theorem g_tree_parser_leaf_c7_sh : wpB C I (g_tree_parser_leaf.c7F R_c0 R_c1 R_c2 R_c6) (St.mk s o) Q =
 (demand ((buildN [V.d (.str []), V.d (.str []), V.d (.int .i64 0), V.d (.int .i64 0), V.d (.int .i64 0), V.d (.int .i64 0)] []).map V.agg) (fun x1 =>
(¬ I 4 ∧ Fresh (St.mk (upd s 13 x1) o) 4 (some 4) ∧ V.refsL 4 [V.d (.str []), V.d (.str []), V.d (.int .i64 0), V.d (.int .i64 0), V.d (.int .i64 0), V.d (.int .i64 0)] = false ∧
storeK (V.ptr 4 0) (cellsV x1) 6 (upd o 4 (some (Ob.box [V.d (.str []), V.d (.str []), V.d (.int .i64 0), V.d (.int .i64 0), V.d (.int .i64 0), V.d (.int .i64 0)]))) (fun m2 ob3 =>
demand (faddrV 0 (s 3)) (fun x4 =>
demand (loadV (upd (upd o 4 (some (Ob.box [V.d (.str []), V.d (.str []), V.d (.int .i64 0), V.d (.int .i64 0), V.d (.int .i64 0), V.d (.int .i64 0)]))) m2 (some ob3)) none x4) (fun x5 =>
demand (binV BinOp.eql x5 (V.d (.int .i64 2))) (fun x6 =>
condK x6
 (demand (faddrV 1 (s 3)) (fun x7 =>
demand (loadV (upd (upd o 4 (some (Ob.box [V.d (.str []), V.d (.str []), V.d (.int .i64 0), V.d (.int .i64 0), V.d (.int .i64 0), V.d (.int .i64 0)]))) m2 (some ob3)) none x7) (fun x8 =>
callK C I (St.mk (upd (upd (look [(0, s 0), (3, s 3), (4, (V.ptr 4 0)), (15, x5), (16, x6)]) 19 x7) 20 x8) (upd (upd o 4 (some (Ob.box [V.d (.str []), V.d (.str []), V.d (.int .i64 0), V.d (.int .i64 0), V.d (.int .i64 0), V.d (.int .i64 0)]))) m2 (some ob3))) (some 21) 70 [x8] (fun r9 or9 =>
demand (extV r9 0) (fun x10 =>
demand (extV r9 1) (fun x11 =>
wpB C I R_c0 (St.mk (look [(0, s 0), (3, s 3), (4, (V.ptr 4 0)), (5, x10)]) or9) (blockK 0 [0, 3, 4] none (seqK (fun st => wpB C I R_c6 st Q) Q))))))))
 (demand (binV BinOp.eql x5 (V.d (.int .i64 3))) (fun x12 =>
condK x12
 (demand (faddrV 1 (s 3)) (fun x13 =>
demand (loadV (upd (upd o 4 (some (Ob.box [V.d (.str []), V.d (.str []), V.d (.int .i64 0), V.d (.int .i64 0), V.d (.int .i64 0), V.d (.int .i64 0)]))) m2 (some ob3)) none x13) (fun x14 =>
callK C I (St.mk (upd (upd (look [(0, s 0), (3, s 3), (4, (V.ptr 4 0)), (15, x5), (26, x12)]) 29 x13) 30 x14) (upd (upd o 4 (some (Ob.box [V.d (.str []), V.d (.str []), V.d (.int .i64 0), V.d (.int .i64 0), V.d (.int .i64 0), V.d (.int .i64 0)]))) m2 (some ob3))) (some 31) 51 [x14] (fun r15 or15 =>
demand (extV r15 0) (fun x16 =>
demand (extV r15 1) (fun x17 =>
wpB C I R_c1 (St.mk (look [(0, s 0), (3, s 3), (4, (V.ptr 4 0)), (7, x16)]) or15) (blockK 0 [0, 3, 4] none (seqK (fun st => wpB C I R_c6 st Q) Q))))))))
 (demand (binV BinOp.eql x5 (V.d (.int .i64 4))) (fun x18 =>
condK x18
 (demand (faddrV 1 (s 3)) (fun x19 =>
demand (loadV (upd (upd o 4 (some (Ob.box [V.d (.str []), V.d (.str []), V.d (.int .i64 0), V.d (.int .i64 0), V.d (.int .i64 0), V.d (.int .i64 0)]))) m2 (some ob3)) none x19) (fun x20 =>
callK C I (St.mk (upd (upd (look [(0, s 0), (3, s 3), (4, (V.ptr 4 0)), (15, x5), (36, x18)]) 39 x19) 40 x20) (upd (upd o 4 (some (Ob.box [V.d (.str []), V.d (.str []), V.d (.int .i64 0), V.d (.int .i64 0), V.d (.int .i64 0), V.d (.int .i64 0)]))) m2 (some ob3))) (some 41) 92 [x20] (fun r21 or21 =>
demand (extV r21 0) (fun x22 =>
demand (extV r21 1) (fun x23 =>
wpB C I R_c2 (St.mk (look [(0, s 0), (3, s 3), (4, (V.ptr 4 0)), (9, x22)]) or21) (blockK 0 [0, 3, 4] none (seqK (fun st => wpB C I R_c6 st Q) Q))))))))
 (demand (binV BinOp.eql x5 (V.d (.int .i64 1))) (fun x24 =>
condK x24
 (demand (faddrV 1 (s 3)) (fun x25 =>
demand (loadV (upd (upd o 4 (some (Ob.box [V.d (.str []), V.d (.str []), V.d (.int .i64 0), V.d (.int .i64 0), V.d (.int .i64 0), V.d (.int .i64 0)]))) m2 (some ob3)) none x25) (fun x26 =>
demand ((buildN [V.d (.str []), V.d (.str []), V.d (.int .i64 0), V.d (.int .i64 0), V.d (.int .i64 0), V.d (.int .i64 0)] [(0, 1, (V.d (.str [110, 97, 109, 101]))), (1, 1, x26)]).map V.agg) (fun x27 =>
storeK (V.ptr 4 0) (cellsV x27) 6 (upd (upd o 4 (some (Ob.box [V.d (.str []), V.d (.str []), V.d (.int .i64 0), V.d (.int .i64 0), V.d (.int .i64 0), V.d (.int .i64 0)]))) m2 (some ob3)) (fun m28 ob29 =>
wpB C I R_c6 (St.mk (look [(0, s 0), (3, s 3), (4, (V.ptr 4 0))]) (upd (upd (upd o 4 (some (Ob.box [V.d (.str []), V.d (.str []), V.d (.int .i64 0), V.d (.int .i64 0), V.d (.int .i64 0), V.d (.int .i64 0)]))) m2 (some ob3)) m28 (some ob29))) Q)))))
 (wpB C I R_c6 (St.mk (look [(0, s 0), (3, s 3), (4, (V.ptr 4 0))]) (upd (upd o 4 (some (Ob.box [V.d (.str []), V.d (.str []), V.d (.int .i64 0), V.d (.int .i64 0), V.d (.int .i64 0), V.d (.int .i64 0)]))) m2 (some ob3))) Q)))))))))))))) := rfl
@[instance] theorem g_tree_parser_leaf_c7_u : UnfAt (wpB C I g_tree_parser_leaf.c7 (St.mk s o) Q) g_tree_parser_leaf_c7_sh := Unf.of _
theorem g_tree_parser_leaf_code_sh : wpB C I (g_tree_parser_leaf.codeF R_c7) (St.mk s o) Q =
 (callK C I (St.mk (upd (look [(0, s 0)]) 11 (s 0)) o) (some 12) 217 [(s 0)] (fun r1 or1 =>
(¬ I 3 ∧ Fresh (St.mk (upd (upd (look [(0, s 0)]) 11 (s 0)) 12 r1) or1) 3 (some 3) ∧ V.refsL 3 [V.d (.int .i64 0), V.d (.str []), V.d (.int .i64 0)] = false ∧
storeK (V.ptr 3 0) (cellsV r1) 3 (upd or1 3 (some (Ob.box [V.d (.int .i64 0), V.d (.str []), V.d (.int .i64 0)]))) (fun m2 ob3 =>
wpB C I R_c7 (St.mk (look [(0, s 0), (3, (V.ptr 3 0))]) (upd (upd or1 3 (some (Ob.box [V.d (.int .i64 0), V.d (.str []), V.d (.int .i64 0)]))) m2 (some ob3))) Q)))) := rfl
@[instance] theorem g_tree_parser_leaf_code_u : UnfAt (wpB C I g_tree_parser_leaf.code (St.mk s o) Q) g_tree_parser_leaf_code_sh := Unf.of _
theorem g_internal_stringslite_HasSuffix_o1_sh : opsB C I (g_internal_stringslite_HasSuffix.o1) (St.mk s o) K =
 (demand (pickV (s 10) (s 19) (V.d (.bool false))) (fun x1 =>
K (St.mk (upd (upd s 20 x1) 4 x1) o))) := rfl
@[instance] theorem g_internal_stringslite_HasSuffix_o1_u : UnfAt (opsB C I g_internal_stringslite_HasSuffix.o1 (St.mk s o) K) g_internal_stringslite_HasSuffix_o1_sh := Unf.of _
theorem g_internal_stringslite_HasSuffix_o0_sh : opsB C I (g_internal_stringslite_HasSuffix.o0F R_o1) (St.mk s o) K =
 (guardK (s 10) true
 (demand (lenSV (s 0)) (fun x1 =>
demand (lenSV (s 1)) (fun x2 =>
demand (binV BinOp.sub x1 x2) (fun x3 =>
demand (slcSV (s 0) (some x3) none) (fun x4 =>
demand (binV BinOp.eql x4 (s 1)) (fun x5 =>
opsB C I R_o1 (St.mk (look [(10, (V.d (D.bool true))), (19, x5)]) (looko ([].map fun n => (n, o n)))) K))))))
 (opsB C I R_o1 (St.mk (look [(10, (V.d (D.bool false))), (19, (V.tup []))]) (looko ([].map fun n => (n, o n)))) K)
 (opsB C I R_o1 (St.mk (look [(10, (V.tup [])), (19, (V.tup []))]) (looko ([].map fun n => (n, o n)))) K)) := rfl
@[instance] theorem g_internal_stringslite_HasSuffix_o0_u : UnfAt (opsB C I g_internal_stringslite_HasSuffix.o0 (St.mk s o) K) g_internal_stringslite_HasSuffix_o0_sh := Unf.of _
theorem g_internal_stringslite_HasSuffix_c0_sh : wpB C I (g_internal_stringslite_HasSuffix.c0) (St.mk s o) Q =
 (Q .ret (St.mk s o)) := rfl
@[instance] theorem g_internal_stringslite_HasSuffix_c0_u : UnfAt (wpB C I g_internal_stringslite_HasSuffix.c0 (St.mk s o) Q) g_internal_stringslite_HasSuffix_c0_sh := Unf.of _
theorem g_internal_stringslite_HasSuffix_code_sh : wpB C I (g_internal_stringslite_HasSuffix.codeF R_o0 R_c0) (St.mk s o) Q =
 (demand (lenSV (s 0)) (fun x1 =>
demand (lenSV (s 1)) (fun x2 =>
demand (binV BinOp.geq x1 x2) (fun x3 =>
opsB C I R_o0 (St.mk (look [(0, s 0), (1, s 1), (10, x3)]) (looko ([].map fun n => (n, o n)))) (fun st => (seqK (fun st => wpB C I R_c0 st Q) Q) .normal (St.trim st [4] (some []))))))) := rfl
@[instance] theorem g_internal_stringslite_HasSuffix_code_u : UnfAt (wpB C I g_internal_stringslite_HasSuffix.code (St.mk s o) Q) g_internal_stringslite_HasSuffix_code_sh := Unf.of _
end Pay
