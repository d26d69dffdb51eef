/- What the code of the functions comes to, without slots: an equation for each part; no condition. -/
import Derived.Test.YtmglkghngkbioaaGreatDoorPayBc0
import Derived.Test.YtmglkghngkbioaaGreatDoorPayCode0_0
set_option maxRecDepth 20000
set_option maxHeartbeats 400000
set_option linter.unusedVariables false
namespace Pay
open Go
variable {R_c0 R_c1 R_c2 R_c3 R_c5 R_c6 R_c7 R_c9 R_l0 R_l1:ACode}{R_i1 R_i2 R_i3 R_i4 R_i5 R_i6 R_i7 R_i25 R_i26 R_i27 R_i28 R_i29 R_i30 R_i31:List Nat}{R_t4 R_t5 R_t6 R_t7 R_t8 R_t9 R_t10 R_t11 R_t12 R_t13 R_t14 R_t15 R_t16 R_t17 R_t18 R_t19 R_t20 R_t21 R_t22 R_t23 R_t32 R_t33 R_t34 R_t35 R_t36 R_t37 R_t38 R_t39 R_t40 R_t41 R_t42 R_t43 R_t44 R_t45 R_t46:Tr}{C:Ctx}{I:Nat→Prop}{s:Nat→V}{o:Nat→Option Ob}{K:St→Prop}{Q:Ex→St→Prop}
abbrev u1:=OB.of g_law09_ShowTells.o1.eq_1
abbrev u2:=OB.of g_law09_ShowTells.o0.eq_1
abbrev u3:=CB.of g_law09_ShowTells.c0.eq_1
abbrev u4:=OB.of g_law09_ShowTells.o5.eq_1
abbrev u5:=OB.of g_law09_ShowTells.o4.eq_1
abbrev u6:=OB.of g_law09_ShowTells.o3.eq_1
abbrev u7:=OB.of g_law09_ShowTells.o2.eq_1
abbrev u8:=CB.of g_law09_ShowTells.c1.eq_1
abbrev u9:=OB.of g_law09_ShowTells.o7.eq_1
abbrev u10:=OB.of g_law09_ShowTells.o6.eq_1
abbrev u11:=OB.of g_law09_ShowTells.o11.eq_1
abbrev u12:=OB.of g_law09_ShowTells.o10.eq_1
abbrev u13:=OB.of g_law09_ShowTells.o9.eq_1
abbrev u14:=OB.of g_law09_ShowTells.o8.eq_1
abbrev u15:=CB.of g_law09_ShowTells.c2.eq_1
abbrev u16:=CB.of g_law09_ShowTells.c3.eq_1
abbrev u17:=OB.of g_law09_ShowTells.o15.eq_1
abbrev u18:=OB.of g_law09_ShowTells.o14.eq_1
abbrev u19:=OB.of g_law09_ShowTells.o13.eq_1
abbrev u20:=OB.of g_law09_ShowTells.o12.eq_1
abbrev u21:=CB.of g_law09_ShowTells.c4.eq_1
abbrev u22:=CB.of g_law09_ShowTells.c5.eq_1
abbrev u23:=CB.of g_law09_ShowTells.c6.eq_1
abbrev u24:=CB.of g_law09_ShowTells.c7.eq_1
abbrev u25:=CB.of g_law09_ShowTells.c8.eq_1
abbrev u26:=CB.of g_law09_ShowTells.c9.eq_1
abbrev u27:=CB.of g_law09_ShowTells.c10.eq_1
abbrev u28:=CB.of g_law09_ShowTells.c11.eq_1
abbrev u29:=CB.of g_law09_ShowTells.c12.eq_1
abbrev u30:=CB.of g_law09_ShowTells.code.eq_1
abbrev u31:=OB.of g_law09_awake.o7.eq_1
abbrev u32:=OB.of g_law09_awake.o6.eq_1
abbrev u33:=OB.of g_law09_awake.o5.eq_1
abbrev u34:=OB.of g_law09_awake.o4.eq_1
abbrev u35:=OB.of g_law09_awake.o3.eq_1
abbrev u36:=OB.of g_law09_awake.o2.eq_1
abbrev u37:=OB.of g_law09_awake.o1.eq_1
abbrev u38:=OB.of g_law09_awake.o0.eq_1
abbrev u39:=CB.of g_law09_awake.c0.eq_1
abbrev u40:=CB.of g_law09_awake.c1.eq_1
abbrev u41:=CB.of g_law09_awake.c2.eq_1
abbrev u42:=CB.of g_law09_awake.c3.eq_1
abbrev u43:=CB.of g_law09_awake.c4.eq_1
abbrev u44:=CB.of g_law09_awake.code.eq_1
abbrev u45:=OB.of g_tree_Parse.o1.eq_1
abbrev u46:=OB.of g_tree_Parse.o0.eq_1
abbrev u47:=CB.of g_tree_Parse.c0.eq_1
abbrev u48:=CB.of g_tree_Parse.c1.eq_1
abbrev u49:=CB.of g_tree_Parse.c2.eq_1
theorem g_tree_Parse_c3_sh:wpB C I (g_tree_Parse.c3F R_c2) (St.mk s o) Q =
 (demand (nilcV (s 8)) (fun x1 =>
demand (faddrV 5 x1) (fun x2 =>
demand (loadV o none x2) (fun x3 =>
demand (binV BinOp.neq x3 (V.d (.int .i64 0))) (fun x4 =>
condK x4
 (V.undef=V.undef∧(demand ((buildN [V.cap0,V.cap0] []).map V.agg) (fun x5=>quietV o (x5::[]) ∧
V.undef=V.undef∧(quietV o ((s 8)::[(s 8)]) ∧
V.undef=V.undef∧(demand (nilcV (s 8)) (fun x7=>quietV o (x7::[(s 8)]) ∧
V.undef=V.undef∧(demand (faddrV 6 x7) (fun x8=>quietV o (x8::[x7]) ∧
V.undef=V.undef∧(demand (loadV o none x8) (fun x9=>quietV o (x9::[x8]) ∧
watchV o [(s 2)] [x8] ∧
V.undef=V.undef∧(quietV o ((s 8)::[(s 8)]) ∧
V.undef=V.undef∧(demand (nilcV (s 8)) (fun x11=>quietV o (x11::[(s 8)]) ∧
V.undef=V.undef∧(demand (faddrV 5 x11) (fun x12=>quietV o (x12::[x11]) ∧
V.undef=V.undef∧(demand (loadV o none x12) (fun x13=>quietV o (x13::[x12]) ∧
watchV o [(s 2)] [x12] ∧
(([]:List Nat)=[]∧(storeK (s 2) (cellsV x5) 2 o (fun m14 ob15 =>
(([]:List Nat)=[]∧((([]:List Nat)=[]∧(Q .ret (St.mk (look [(2,s 2),(3,x9),(4,x13)]) (upd o m14 (some ob15)))))))))))))))))))))))))))
 (wpB C I R_c2 (St.mk (look [(2,s 2),(8,s 8),(45,x4)]) o) Q)))))):=rfl
@[instance] theorem g_tree_Parse_c3_u : UnfAt (wpB C I g_tree_Parse.c3 (St.mk s o) Q) g_tree_Parse_c3_sh := Unf.of _
abbrev u50:=CB.of g_tree_Parse.c4.eq_1
abbrev u51:=CB.of g_tree_Parse.c5.eq_1
abbrev u52:=CB.of g_tree_Parse.c6.eq_1
abbrev u53:=CB.of g_tree_Parse.code.eq_1
abbrev u54:=OB.of g_ref08_Parse.o1.eq_1
abbrev u55:=OB.of g_ref08_Parse.o0.eq_1
abbrev u56:=CB.of g_ref08_Parse.c0.eq_1
abbrev u57:=OB.of g_ref08_Parse.o5.eq_1
abbrev u58:=OB.of g_ref08_Parse.o4.eq_1
abbrev u59:=OB.of g_ref08_Parse.o3.eq_1
abbrev u60:=OB.of g_ref08_Parse.o2.eq_1
abbrev u61:=CB.of g_ref08_Parse.c1.eq_1
abbrev u62:=CB.of g_ref08_Parse.c2.eq_1
abbrev u63:=CB.of g_ref08_Parse.c3.eq_1
abbrev u64:=CB.of g_ref08_Parse.c4.eq_1
abbrev u65:=CB.of g_ref08_Parse.c5.eq_1
abbrev u66:=CB.of g_ref08_Parse.c6.eq_1
abbrev u67:=CB.of g_ref08_Parse.c7.eq_1
abbrev u68:=CB.of g_ref08_Parse.c8.eq_1
abbrev u69:=CB.of g_ref08_Parse.c9.eq_1
theorem g_ref08_Parse_c10_sh:wpB C I (g_ref08_Parse.c10F R_c9) (St.mk s o) Q =
 (demand (faddrV 5 (s 7)) (fun x1 =>
demand (loadV o none x1) (fun x2 =>
demand (binV BinOp.neq x2 (V.d (.int .i64 0))) (fun x3 =>
condK x3
 (V.undef=V.undef∧(demand ((buildN [V.cap0,V.cap0] []).map V.agg) (fun x4=>quietV (looko ([2,7,108].map fun n=>(n,o n))) (x4::[]) ∧
V.undef=V.undef∧(demand (faddrV 6 (s 7)) (fun x5=>quietV (looko ([2,7,108].map fun n=>(n,o n))) (x5::[(s 7)]) ∧
V.undef=V.undef∧(demand (loadV (looko ([2,7,108].map fun n=>(n,o n))) none x5) (fun x6=>quietV (looko ([2,7,108].map fun n=>(n,o n))) (x6::[x5]) ∧
watchV (looko ([2,7,108].map fun n=>(n,o n))) [(s 2)] [x5] ∧
V.undef=V.undef∧(demand (faddrV 5 (s 7)) (fun x7=>quietV (looko ([2,7,108].map fun n=>(n,o n))) (x7::[(s 7)]) ∧
V.undef=V.undef∧(demand (loadV (looko ([2,7,108].map fun n=>(n,o n))) none x7) (fun x8=>quietV (looko ([2,7,108].map fun n=>(n,o n))) (x8::[x7]) ∧
watchV (looko ([2,7,108].map fun n=>(n,o n))) [(s 2)] [x7] ∧
(([]:List Nat)=[]∧(storeK (s 2) (cellsV x4) 2 (looko ([2,7,108].map fun n=>(n,o n))) (fun m9 ob10 =>
(([]:List Nat)=[]∧((([]:List Nat)=[]∧(Q .ret (St.mk (look [(2,s 2),(3,x6),(4,x8)]) (looko ([2,108].map fun n=>(n,(upd (looko ([2,7,108].map fun n=>(n,o n))) m9 (some ob10)) n))))))))))))))))))))))
 (wpB C I R_c9 (St.mk (look [(2,s 2),(7,s 7),(113,x3)]) (looko ([2,7,108].map fun n=>(n,o n)))) Q))))):=rfl
@[instance] theorem g_ref08_Parse_c10_u : UnfAt (wpB C I g_ref08_Parse.c10 (St.mk s o) Q) g_ref08_Parse_c10_sh := Unf.of _
abbrev u70:=CB.of g_ref08_Parse.c11.eq_1
abbrev u71:=CB.of g_ref08_Parse.c12.eq_1
abbrev u72:=CB.of g_ref08_Parse.c13.eq_1
abbrev u73:=CB.of g_ref08_Parse.code.eq_1
abbrev u74:=OB.of g_show_Text.o1.eq_1
abbrev u75:=OB.of g_show_Text.o0.eq_1
abbrev u76:=CB.of g_show_Text.c0.eq_1
abbrev u77:=CB.of g_show_Text.c1.eq_1
abbrev u78:=CB.of g_show_Text.c2.eq_1
abbrev u79:=CB.of g_show_Text.c3.eq_1
abbrev u80:=CB.of g_show_Text.code.eq_1
abbrev u81:=OB.of g_show_Expr.o3.eq_1
abbrev u82:=OB.of g_show_Expr.o2.eq_1
abbrev u83:=OB.of g_show_Expr.o1.eq_1
abbrev u84:=OB.of g_show_Expr.o0.eq_1
abbrev u85:=CB.of g_show_Expr.c0.eq_1
abbrev u86:=CB.of g_show_Expr.c1.eq_1
abbrev u87:=CB.of g_show_Expr.c2.eq_1
abbrev u88:=CB.of g_show_Expr.code.eq_1
theorem g_ref09_Text_c0_sh:wpB C I (g_ref09_Text.c0) (St.mk s o) Q =
 ((s 16)=V.undef∧(quietV o ((s 4)::[(s 4)]) ∧
(s 17)=V.undef∧(demand (faddrV 0 (s 6)) (fun x2=>quietV o (x2::[(s 6)]) ∧
(s 18)=V.undef∧(demand (loadV o none x2) (fun x3=>quietV o (x3::[x2]) ∧
(s 19)=V.undef∧(demand (binV BinOp.add (s 4) x3) (fun x4=>quietV o (x4::[(s 4),x3]) ∧
(s 20)=V.undef∧(demand (binV BinOp.add x4 (V.d (.str [32]))) (fun x5=>quietV o (x5::[x4,(V.d (.str [32]))]) ∧
(s 21)=V.undef∧(demand (faddrV 1 (s 6)) (fun x6=>quietV o (x6::[(s 6)]) ∧
(s 22)=V.undef∧(demand (loadV o none x6) (fun x7=>quietV o (x7::[x6]) ∧
(s 23)=V.undef∧(demand (binV BinOp.add x5 x7) (fun x8=>quietV o (x8::[x5,x7]) ∧
(s 24)=V.undef∧(demand (binV BinOp.add x8 (V.d (.str [32,61,32]))) (fun x9=>quietV o (x9::[x8,(V.d (.str [32,61,32]))]) ∧
(s 25)=V.undef∧(quietV o ((s 3)::[(s 3)]) ∧
(s 26)=V.undef∧(demand (faddrV 2 (s 6)) (fun x11=>quietV o (x11::[(s 6)]) ∧
(s 27)=V.undef∧(demand (loadV o none x11) (fun x12=>quietV o (x12::[x11]) ∧
(s 28)=V.undef∧(demand (iaddrV o 1 (s 3) x12) (fun x13=>quietV o (x13::[(s 3),x12]) ∧
(s 29)=V.undef∧(demand (loadV o none x13) (fun x14=>quietV o (x14::[x13]) ∧
(s 30)=V.undef∧(demand (binV BinOp.add x9 x14) (fun x15=>quietV o (x15::[x9,x14]) ∧
(s 31)=V.undef∧(demand (binV BinOp.add x15 (V.d (.str [59,10]))) (fun x16=>quietV o (x16::[x15,(V.d (.str [59,10]))]) ∧
(([]:List Nat)=[]∧(Q .normal (St.mk (look [(3,s 3),(4,x16),(10,s 10),(11,s 11),(12,s 12)]) (looko ([].map fun n=>(n,o n))))))))))))))))))))))))))))))))))))):=rfl
@[instance] theorem g_ref09_Text_c0_u : UnfAt (wpB C I g_ref09_Text.c0 (St.mk s o) Q) g_ref09_Text_c0_sh := Unf.of _
abbrev u89:=CB.of g_ref09_Text.c1.eq_1
abbrev u90:=CB.of g_ref09_Text.c2.eq_1
abbrev u91:=CB.of g_ref09_Text.c3.eq_1
abbrev u92:=CB.of g_ref09_Text.code.eq_1
abbrev u93:=OB.of g_ref09_Texts.o1.eq_1
abbrev u94:=OB.of g_ref09_Texts.o0.eq_1
theorem g_ref09_Texts_c0_sh:wpB C I (g_ref09_Texts.c0) (St.mk s o) Q =
 (condK (s 43)
 ((s 44)=V.undef∧((s 45)=V.undef∧(quietV o ((s 9)::[(s 9)]) ∧
(s 46)=V.undef∧(demand (iaddrV o 1 (s 3) (s 9)) (fun x3=>(s 47)=V.undef∧(demand (loadV o none x3) (fun x4=>(s 48)=V.undef∧(demand (faddrV 1 (s 1)) (fun x5=>(s 49)=V.undef∧(demand (loadV o none x5) (fun x6=>(s 50)=V.undef∧(quietV o ((s 9)::[(s 9)]) ∧
(s 51)=V.undef∧(demand (iaddrV o 6 x6 (s 9)) (fun x8=>quietV o (x8::[x6,(s 9)]) ∧
(s 52)=V.undef∧(demand (faddrV 0 x8) (fun x9=>quietV o (x9::[x8]) ∧
(s 53)=V.undef∧(demand (loadV o none x9) (fun x10=>quietV o (x10::[x9]) ∧
(s 54)=V.undef∧(∃ x11,SoundAt C 201 ⟨[x10],fun _=>none⟩ ⟨x11,fun _=>none⟩∧(∀ n,V.refs n x11=false)∧quietV o (x11::[x10]) ∧
(([]:List Nat)=[]∧((([]:List Nat)=[]∧(Q .normal (St.mk (look [(1,s 1),(3,s 3),(4,s 4),(5,s 5),(6,s 6),(7,s 7),(10,x4),(11,x11),(31,s 31),(32,s 32),(33,s 33)]) (looko ([1,5,58,62,192].map fun n=>(n,o n)))))))))))))))))))))))))))
 (Q .normal (St.mk s o))):=rfl
@[instance] theorem g_ref09_Texts_c0_u : UnfAt (wpB C I g_ref09_Texts.c0 (St.mk s o) Q) g_ref09_Texts_c0_sh := Unf.of _
abbrev u95:=CB.of g_ref09_Texts.c1.eq_1
abbrev u96:=CB.of g_ref09_Texts.c2.eq_1
abbrev u97:=CB.of g_ref09_Texts.c3.eq_1
abbrev u98:=CB.of g_ref09_Texts.c4.eq_1
theorem g_ref09_Texts_c5_sh:wpB C I (g_ref09_Texts.c5) (St.mk s o) Q =
 (condK (s 148)
 ((s 151)=V.undef∧((s 152)=V.undef∧(demand (iaddrV o 1 (s 6) (V.d (.int .i64 0))) (fun x2=>(s 153)=V.undef∧(demand (loadV o none x2) (fun x3=>(s 154)=V.undef∧((s 155)=V.undef∧(demand (iaddrV o 1 (s 7) (V.d (.int .i64 0))) (fun x5=>(s 156)=V.undef∧(demand (loadV o none x5) (fun x6=>(s 157)=V.undef∧(∃ x7,SoundAt C 202 ⟨[x3,x6,(V.d (.int .i64 2))],fun _=>none⟩ ⟨x7,fun _=>none⟩∧(∀ n,V.refs n x7=false)∧quietV o (x7::[x3,x6,(V.d (.int .i64 2))]) ∧
(s 158)=V.undef∧(demand (binV BinOp.add x7 (V.d (.str [32]))) (fun x8=>quietV o (x8::[x7,(V.d (.str [32]))]) ∧
(s 159)=V.undef∧(demand (faddrV 0 (s 5)) (fun x9=>(s 160)=V.undef∧(demand (loadV o none x9) (fun x10=>(s 161)=V.undef∧(demand (binV BinOp.add x8 x10) (fun x11=>quietV o (x11::[x8,x10]) ∧
(s 162)=V.undef∧(demand (binV BinOp.add x11 (V.d (.str [32]))) (fun x12=>quietV o (x12::[x11,(V.d (.str [32]))]) ∧
(s 163)=V.undef∧((s 164)=V.undef∧(demand (iaddrV o 1 (s 6) (V.d (.int .i64 1))) (fun x14=>(s 165)=V.undef∧(demand (loadV o none x14) (fun x15=>(s 166)=V.undef∧((s 167)=V.undef∧(demand (iaddrV o 1 (s 7) (V.d (.int .i64 1))) (fun x17=>(s 168)=V.undef∧(demand (loadV o none x17) (fun x18=>(s 169)=V.undef∧(∃ x19,SoundAt C 202 ⟨[x15,x18,(V.d (.int .i64 3))],fun _=>none⟩ ⟨x19,fun _=>none⟩∧(∀ n,V.refs n x19=false)∧quietV o (x19::[x15,x18,(V.d (.int .i64 3))]) ∧
(s 170)=V.undef∧(demand (binV BinOp.add x12 x19) (fun x20=>quietV o (x20::[x12,x19]) ∧
(s 12)=V.undef∧(quietV o (x20::[x20]) ∧
Q .normal (St.mk (look [(1,s 1),(3,s 3),(4,s 4),(12,x20)]) (looko ([1,192].map fun n=>(n,o n))))))))))))))))))))))))))))))))))))))))
 (demand (binV BinOp.eql (s 65) (V.d (.str [42]))) (fun x22 =>
condK x22
 (V.undef=V.undef∧(V.undef=V.undef∧(demand (iaddrV (looko ([1,5,58,62,192].map fun n=>(n,o n))) 1 (s 6) (V.d (.int .i64 0))) (fun x24=>V.undef=V.undef∧(demand (loadV (looko ([1,5,58,62,192].map fun n=>(n,o n))) none x24) (fun x25=>V.undef=V.undef∧(V.undef=V.undef∧(demand (iaddrV (looko ([1,5,58,62,192].map fun n=>(n,o n))) 1 (s 7) (V.d (.int .i64 0))) (fun x27=>V.undef=V.undef∧(demand (loadV (looko ([1,5,58,62,192].map fun n=>(n,o n))) none x27) (fun x28=>V.undef=V.undef∧(∃ x29,SoundAt C 202 ⟨[x25,x28,(V.d (.int .i64 3))],fun _=>none⟩ ⟨x29,fun _=>none⟩∧(∀ n,V.refs n x29=false)∧quietV (looko ([1,5,58,62,192].map fun n=>(n,o n))) (x29::[x25,x28,(V.d (.int .i64 3))]) ∧
V.undef=V.undef∧(demand (binV BinOp.add x29 (V.d (.str [32,42,32]))) (fun x30=>quietV (looko ([1,5,58,62,192].map fun n=>(n,o n))) (x30::[x29,(V.d (.str [32,42,32]))]) ∧
V.undef=V.undef∧(V.undef=V.undef∧(demand (iaddrV (looko ([1,5,58,62,192].map fun n=>(n,o n))) 1 (s 6) (V.d (.int .i64 1))) (fun x32=>V.undef=V.undef∧(demand (loadV (looko ([1,5,58,62,192].map fun n=>(n,o n))) none x32) (fun x33=>V.undef=V.undef∧(V.undef=V.undef∧(demand (iaddrV (looko ([1,5,58,62,192].map fun n=>(n,o n))) 1 (s 7) (V.d (.int .i64 1))) (fun x35=>V.undef=V.undef∧(demand (loadV (looko ([1,5,58,62,192].map fun n=>(n,o n))) none x35) (fun x36=>V.undef=V.undef∧(∃ x37,SoundAt C 202 ⟨[x33,x36,(V.d (.int .i64 4))],fun _=>none⟩ ⟨x37,fun _=>none⟩∧(∀ n,V.refs n x37=false)∧quietV (looko ([1,5,58,62,192].map fun n=>(n,o n))) (x37::[x33,x36,(V.d (.int .i64 4))]) ∧
V.undef=V.undef∧(demand (binV BinOp.add x30 x37) (fun x38=>quietV (looko ([1,5,58,62,192].map fun n=>(n,o n))) (x38::[x30,x37]) ∧
V.undef=V.undef∧(quietV (looko ([1,5,58,62,192].map fun n=>(n,o n))) (x38::[x38]) ∧
Q .normal (St.mk (look [(1,s 1),(3,s 3),(4,s 4),(12,x38)]) (looko ([1,192].map fun n=>(n,o n))))))))))))))))))))))))))))))))
 (V.undef=V.undef∧(V.undef=V.undef∧(demand (iaddrV (looko ([1,5,58,62,192].map fun n=>(n,o n))) 1 (s 6) (V.d (.int .i64 0))) (fun x41=>V.undef=V.undef∧(demand (loadV (looko ([1,5,58,62,192].map fun n=>(n,o n))) none x41) (fun x42=>V.undef=V.undef∧(V.undef=V.undef∧(demand (iaddrV (looko ([1,5,58,62,192].map fun n=>(n,o n))) 1 (s 7) (V.d (.int .i64 0))) (fun x44=>V.undef=V.undef∧(demand (loadV (looko ([1,5,58,62,192].map fun n=>(n,o n))) none x44) (fun x45=>V.undef=V.undef∧(∃ x46,SoundAt C 202 ⟨[x42,x45,(V.d (.int .i64 2))],fun _=>none⟩ ⟨x46,fun _=>none⟩∧(∀ n,V.refs n x46=false)∧quietV (looko ([1,5,58,62,192].map fun n=>(n,o n))) (x46::[x42,x45,(V.d (.int .i64 2))]) ∧
V.undef=V.undef∧(demand (binV BinOp.add x46 (V.d (.str [32]))) (fun x47=>quietV (looko ([1,5,58,62,192].map fun n=>(n,o n))) (x47::[x46,(V.d (.str [32]))]) ∧
V.undef=V.undef∧(demand (faddrV 0 (s 5)) (fun x48=>V.undef=V.undef∧(demand (loadV (looko ([1,5,58,62,192].map fun n=>(n,o n))) none x48) (fun x49=>V.undef=V.undef∧(demand (binV BinOp.add x47 x49) (fun x50=>quietV (looko ([1,5,58,62,192].map fun n=>(n,o n))) (x50::[x47,x49]) ∧
V.undef=V.undef∧(demand (binV BinOp.add x50 (V.d (.str [32]))) (fun x51=>quietV (looko ([1,5,58,62,192].map fun n=>(n,o n))) (x51::[x50,(V.d (.str [32]))]) ∧
V.undef=V.undef∧(V.undef=V.undef∧(demand (iaddrV (looko ([1,5,58,62,192].map fun n=>(n,o n))) 1 (s 6) (V.d (.int .i64 1))) (fun x53=>V.undef=V.undef∧(demand (loadV (looko ([1,5,58,62,192].map fun n=>(n,o n))) none x53) (fun x54=>V.undef=V.undef∧(V.undef=V.undef∧(demand (iaddrV (looko ([1,5,58,62,192].map fun n=>(n,o n))) 1 (s 7) (V.d (.int .i64 1))) (fun x56=>V.undef=V.undef∧(demand (loadV (looko ([1,5,58,62,192].map fun n=>(n,o n))) none x56) (fun x57=>V.undef=V.undef∧(∃ x58,SoundAt C 202 ⟨[x54,x57,(V.d (.int .i64 2))],fun _=>none⟩ ⟨x58,fun _=>none⟩∧(∀ n,V.refs n x58=false)∧quietV (looko ([1,5,58,62,192].map fun n=>(n,o n))) (x58::[x54,x57,(V.d (.int .i64 2))]) ∧
V.undef=V.undef∧(demand (binV BinOp.add x51 x58) (fun x59=>quietV (looko ([1,5,58,62,192].map fun n=>(n,o n))) (x59::[x51,x58]) ∧
V.undef=V.undef∧(quietV (looko ([1,5,58,62,192].map fun n=>(n,o n))) (x59::[x59]) ∧
Q .normal (St.mk (look [(1,s 1),(3,s 3),(4,s 4),(12,x59)]) (looko ([1,192].map fun n=>(n,o n))))))))))))))))))))))))))))))))))))))))))):=rfl
@[instance] theorem g_ref09_Texts_c5_u : UnfAt (wpB C I g_ref09_Texts.c5 (St.mk s o) Q) g_ref09_Texts_c5_sh := Unf.of _
theorem g_ref09_Texts_c6_sh:wpB C I (g_ref09_Texts.c6F R_c5) (St.mk s o) Q =
 (condK (s 116)
 ((s 119)=V.undef∧(demand (faddrV 0 (s 5)) (fun x1=>(s 120)=V.undef∧(demand (loadV o none x1) (fun x2=>(s 121)=V.undef∧(demand (binV BinOp.add x2 (V.d (.str [40]))) (fun x3=>quietV o (x3::[x2,(V.d (.str [40]))]) ∧
(s 122)=V.undef∧((s 123)=V.undef∧(demand (iaddrV o 1 (s 6) (V.d (.int .i64 0))) (fun x5=>(s 124)=V.undef∧(demand (loadV o none x5) (fun x6=>(s 125)=V.undef∧(demand (binV BinOp.add x3 x6) (fun x7=>quietV o (x7::[x3,x6]) ∧
(s 126)=V.undef∧(demand (binV BinOp.add x7 (V.d (.str [44,32]))) (fun x8=>quietV o (x8::[x7,(V.d (.str [44,32]))]) ∧
(s 127)=V.undef∧((s 128)=V.undef∧(demand (iaddrV o 1 (s 6) (V.d (.int .i64 1))) (fun x10=>(s 129)=V.undef∧(demand (loadV o none x10) (fun x11=>(s 130)=V.undef∧(demand (binV BinOp.add x8 x11) (fun x12=>quietV o (x12::[x8,x11]) ∧
(s 131)=V.undef∧(demand (binV BinOp.add x12 (V.d (.str [41]))) (fun x13=>quietV o (x13::[x12,(V.d (.str [41]))]) ∧
(s 12)=V.undef∧(quietV o (x13::[x13]) ∧
Q .normal (St.mk (look [(1,s 1),(3,s 3),(4,s 4),(12,x13)]) (looko ([1,192].map fun n=>(n,o n))))))))))))))))))))))))))))))
 (demand (binV BinOp.eql (s 65) (V.d (.str [105,102]))) (fun x15 =>
condK x15
 (V.undef=V.undef∧(V.undef=V.undef∧(demand (iaddrV (looko ([1,5,58,62,192].map fun n=>(n,o n))) 1 (s 6) (V.d (.int .i64 0))) (fun x17=>V.undef=V.undef∧(demand (loadV (looko ([1,5,58,62,192].map fun n=>(n,o n))) none x17) (fun x18=>V.undef=V.undef∧(demand (binV BinOp.add (V.d (.str [105,102,32])) x18) (fun x19=>quietV (looko ([1,5,58,62,192].map fun n=>(n,o n))) (x19::[(V.d (.str [105,102,32])),x18]) ∧
V.undef=V.undef∧(demand (binV BinOp.add x19 (V.d (.str [32,116,104,101,110,32]))) (fun x20=>quietV (looko ([1,5,58,62,192].map fun n=>(n,o n))) (x20::[x19,(V.d (.str [32,116,104,101,110,32]))]) ∧
V.undef=V.undef∧(V.undef=V.undef∧(demand (iaddrV (looko ([1,5,58,62,192].map fun n=>(n,o n))) 1 (s 6) (V.d (.int .i64 1))) (fun x22=>V.undef=V.undef∧(demand (loadV (looko ([1,5,58,62,192].map fun n=>(n,o n))) none x22) (fun x23=>V.undef=V.undef∧(demand (binV BinOp.add x20 x23) (fun x24=>quietV (looko ([1,5,58,62,192].map fun n=>(n,o n))) (x24::[x20,x23]) ∧
V.undef=V.undef∧(demand (binV BinOp.add x24 (V.d (.str [32,101,108,115,101,32]))) (fun x25=>quietV (looko ([1,5,58,62,192].map fun n=>(n,o n))) (x25::[x24,(V.d (.str [32,101,108,115,101,32]))]) ∧
V.undef=V.undef∧(V.undef=V.undef∧(demand (iaddrV (looko ([1,5,58,62,192].map fun n=>(n,o n))) 1 (s 6) (V.d (.int .i64 2))) (fun x27=>V.undef=V.undef∧(demand (loadV (looko ([1,5,58,62,192].map fun n=>(n,o n))) none x27) (fun x28=>V.undef=V.undef∧(demand (binV BinOp.add x25 x28) (fun x29=>quietV (looko ([1,5,58,62,192].map fun n=>(n,o n))) (x29::[x25,x28]) ∧
V.undef=V.undef∧(quietV (looko ([1,5,58,62,192].map fun n=>(n,o n))) (x29::[x29]) ∧
Q .normal (St.mk (look [(1,s 1),(3,s 3),(4,s 4),(12,x29)]) (looko ([1,192].map fun n=>(n,o n)))))))))))))))))))))))))))))))
 (demand (binV BinOp.eql (s 65) (V.d (.str [43]))) (fun x31 =>
condK x31
 (wpB C I R_c5 (St.mk (look [(1,s 1),(3,s 3),(4,s 4),(5,s 5),(6,s 6),(7,s 7),(65,s 65),(148,x31)]) (looko ([1,5,58,62,192].map fun n=>(n,o n)))) Q)
 (demand (binV BinOp.eql (s 65) (V.d (.str [45]))) (fun x32 =>
wpB C I R_c5 (St.mk (look [(1,s 1),(3,s 3),(4,s 4),(5,s 5),(6,s 6),(7,s 7),(65,s 65),(148,x32)]) (looko ([1,5,58,62,192].map fun n=>(n,o n)))) Q))))))):=rfl
@[instance] theorem g_ref09_Texts_c6_u : UnfAt (wpB C I g_ref09_Texts.c6 (St.mk s o) Q) g_ref09_Texts_c6_sh := Unf.of _
abbrev u99:=CB.of g_ref09_Texts.c7.eq_1
theorem g_ref09_Texts_c8_sh:wpB C I (g_ref09_Texts.c8F R_c6 R_c7) (St.mk s o) Q =
 (demand (faddrV 0 (s 5)) (fun x1 =>
demand (loadV (looko ([1,5,58,62,192].map fun n=>(n,o n))) none x1) (fun x2 =>
demand (binV BinOp.eql x2 (V.d (.str [119,104,111,108,101]))) (fun x3 =>
condK x3
 (demand (faddrV 2 (s 5)) (fun x4 =>
demand (loadV (looko ([1,5,58,62,192].map fun n=>(n,o n))) none x4) (fun x5 =>
callK C I (St.mk (upd (upd (look [(1,s 1),(3,s 3),(4,s 4),(5,s 5),(6,s 6),(7,s 7),(65,x2),(86,x3)]) 88 x4) 89 x5) (looko ([1,5,58,62,192].map fun n=>(n,o n)))) (some 90) 71 [x5] (fun r6 or6 =>
wpB C I R_c7 (St.mk (look [(1,s 1),(3,s 3),(4,s 4),(12,r6)]) (looko ([1,192].map fun n=>(n,or6 n)))) Q))))
 (demand (binV BinOp.eql x2 (V.d (.str [97,109,111,117,110,116]))) (fun x7 =>
condK x7
 (demand (faddrV 2 (s 5)) (fun x8 =>
demand (loadV (looko ([1,5,58,62,192].map fun n=>(n,o n))) none x8) (fun x9 =>
callK C I (St.mk (upd (upd (look [(1,s 1),(3,s 3),(4,s 4),(5,s 5),(6,s 6),(7,s 7),(65,x2),(91,x7)]) 93 x8) 94 x9) (looko ([1,5,58,62,192].map fun n=>(n,o n)))) (some 95) 54 [x9] (fun r10 or10 =>
wpB C I R_c7 (St.mk (look [(1,s 1),(3,s 3),(4,s 4),(12,r10)]) (looko ([1,192].map fun n=>(n,or10 n)))) Q))))
 (demand (binV BinOp.eql x2 (V.d (.str [114,97,116,101]))) (fun x11 =>
condK x11
 (demand (faddrV 2 (s 5)) (fun x12 =>
demand (loadV (looko ([1,5,58,62,192].map fun n=>(n,o n))) none x12) (fun x13 =>
callK C I (St.mk (upd (upd (look [(1,s 1),(3,s 3),(4,s 4),(5,s 5),(6,s 6),(7,s 7),(65,x2),(96,x11)]) 98 x12) 99 x13) (looko ([1,5,58,62,192].map fun n=>(n,o n)))) (some 100) 54 [x13] (fun r14 or14 =>
demand (binV BinOp.add r14 (V.d (.str [37]))) (fun x15 =>
wpB C I R_c7 (St.mk (look [(1,s 1),(3,s 3),(4,s 4),(12,x15)]) (looko ([1,192].map fun n=>(n,or14 n)))) Q)))))
 (demand (binV BinOp.eql x2 (V.d (.str [110,97,109,101]))) (fun x16 =>
condK x16
 (demand (faddrV 1 (s 5)) (fun x17 =>
demand (loadV (looko ([1,5,58,62,192].map fun n=>(n,o n))) none x17) (fun x18 =>
wpB C I R_c7 (St.mk (look [(1,s 1),(3,s 3),(4,s 4),(12,x18)]) (looko ([1,192].map fun n=>(n,o n)))) Q)))
 (demand (binV BinOp.eql x2 (V.d (.str [110,101,103]))) (fun x19 =>
condK x19
 (V.undef=V.undef∧(V.undef=V.undef∧(demand (iaddrV (looko ([1,5,58,62,192].map fun n=>(n,o n))) 1 (s 6) (V.d (.int .i64 0))) (fun x21=>V.undef=V.undef∧(demand (loadV (looko ([1,5,58,62,192].map fun n=>(n,o n))) none x21) (fun x22=>V.undef=V.undef∧(V.undef=V.undef∧(demand (iaddrV (looko ([1,5,58,62,192].map fun n=>(n,o n))) 1 (s 7) (V.d (.int .i64 0))) (fun x24=>V.undef=V.undef∧(demand (loadV (looko ([1,5,58,62,192].map fun n=>(n,o n))) none x24) (fun x25=>V.undef=V.undef∧(∃ x26,SoundAt C 202 ⟨[x22,x25,(V.d (.int .i64 4))],fun _=>none⟩ ⟨x26,fun _=>none⟩∧(∀ n,V.refs n x26=false)∧quietV (looko ([1,5,58,62,192].map fun n=>(n,o n))) (x26::[x22,x25,(V.d (.int .i64 4))]) ∧
V.undef=V.undef∧(demand (binV BinOp.add (V.d (.str [45])) x26) (fun x27=>quietV (looko ([1,5,58,62,192].map fun n=>(n,o n))) (x27::[(V.d (.str [45])),x26]) ∧
V.undef=V.undef∧(quietV (looko ([1,5,58,62,192].map fun n=>(n,o n))) (x27::[x27]) ∧
wpB C I R_c7 (St.mk (look [(1,s 1),(3,s 3),(4,s 4),(12,x27)]) (looko ([1,192].map fun n=>(n,o n)))) Q)))))))))))))))
 (demand (binV BinOp.eql x2 (V.d (.str [109,105,110]))) (fun x29 =>
condK x29
 (wpB C I R_c6 (St.mk (look [(1,s 1),(3,s 3),(4,s 4),(5,s 5),(6,s 6),(7,s 7),(65,x2),(116,x29)]) (looko ([1,5,58,62,192].map fun n=>(n,o n)))) (blockK 4 [1,3,4,12] (some [1,192]) (seqK (fun st=>wpB C I R_c7 st Q) Q)))
 (demand (binV BinOp.eql x2 (V.d (.str [109,97,120]))) (fun x30 =>
wpB C I R_c6 (St.mk (look [(1,s 1),(3,s 3),(4,s 4),(5,s 5),(6,s 6),(7,s 7),(65,x2),(116,x30)]) (looko ([1,5,58,62,192].map fun n=>(n,o n)))) (blockK 4 [1,3,4,12] (some [1,192]) (seqK (fun st=>wpB C I R_c7 st Q) Q)))))))))))))))))):=rfl
@[instance] theorem g_ref09_Texts_c8_u : UnfAt (wpB C I g_ref09_Texts.c8 (St.mk s o) Q) g_ref09_Texts_c8_sh := Unf.of _
abbrev u100:=CB.of g_ref09_Texts.c9.eq_1
abbrev u101:=CB.of g_ref09_Texts.c10.eq_1
abbrev u102:=CB.of g_ref09_Texts.c11.eq_1
abbrev u103:=CB.of g_ref09_Texts.c12.eq_1
abbrev u104:=CB.of g_ref09_Texts.code.eq_1
abbrev u105:=OB.of g_ref08_Same.o1.eq_1
abbrev u106:=OB.of g_ref08_Same.o0.eq_1
abbrev u107:=CB.of g_ref08_Same.c0.eq_1
abbrev u108:=CB.of g_ref08_Same.c1.eq_1
theorem g_ref08_Same_c2_sh:wpB C I (g_ref08_Same.c2F R_c1) (St.mk s o) Q =
 ((s 30)=V.undef∧(demand (faddrV 0 (s 2)) (fun x1=>quietV o (x1::[(s 2)]) ∧
(s 31)=V.undef∧(demand (loadV o none x1) (fun x2=>quietV o (x2::[x1]) ∧
(s 32)=V.undef∧(quietV o ((s 5)::[(s 5)]) ∧
(s 33)=V.undef∧(demand (iaddrV o 3 x2 (s 5)) (fun x4=>quietV o (x4::[x2,(s 5)]) ∧
(s 34)=V.undef∧(demand (loadV o (some 3) x4) (fun x5=>quietV o (x5::[x4]) ∧
(s 35)=V.undef∧(demand (faddrV 0 (s 3)) (fun x6=>quietV o (x6::[(s 3)]) ∧
(s 36)=V.undef∧(demand (loadV o none x6) (fun x7=>quietV o (x7::[x6]) ∧
(s 37)=V.undef∧(quietV o ((s 5)::[(s 5)]) ∧
(s 38)=V.undef∧(demand (iaddrV o 3 x7 (s 5)) (fun x9=>quietV o (x9::[x7,(s 5)]) ∧
(s 39)=V.undef∧(demand (loadV o (some 3) x9) (fun x10=>quietV o (x10::[x9]) ∧
(s 40)=V.undef∧(demand (eqsV true [2,2,0] x5 x10) (fun x11=>quietV o (x11::[x5,x10]) ∧
condK x11
 (Q .ret (St.mk (look [(4,(V.d (.bool false)))]) (looko ([].map fun n=>(n,o n)))))
 (wpB C I R_c1 (St.mk (look [(2,s 2),(3,s 3),(5,s 5)]) (looko ([2,3].map fun n=>(n,o n)))) Q)))))))))))))))))))))):=rfl
@[instance] theorem g_ref08_Same_c2_u : UnfAt (wpB C I g_ref08_Same.c2 (St.mk s o) Q) g_ref08_Same_c2_sh := Unf.of _
abbrev u109:=CB.of g_ref08_Same.c3.eq_1
theorem g_ref08_Same_c4_sh:wpB C I (g_ref08_Same.c4F R_c3) (St.mk s o) Q =
 ((s 48)=V.undef∧(demand (faddrV 1 (s 2)) (fun x1=>quietV o (x1::[(s 2)]) ∧
(s 49)=V.undef∧(demand (loadV o none x1) (fun x2=>quietV o (x2::[x1]) ∧
(s 50)=V.undef∧(quietV o ((s 6)::[(s 6)]) ∧
(s 51)=V.undef∧(demand (iaddrV o 6 x2 (s 6)) (fun x4=>quietV o (x4::[x2,(s 6)]) ∧
(s 52)=V.undef∧(demand (loadV o (some 6) x4) (fun x5=>quietV o (x5::[x4]) ∧
(s 53)=V.undef∧(demand (faddrV 1 (s 3)) (fun x6=>quietV o (x6::[(s 3)]) ∧
(s 54)=V.undef∧(demand (loadV o none x6) (fun x7=>quietV o (x7::[x6]) ∧
(s 55)=V.undef∧(quietV o ((s 6)::[(s 6)]) ∧
(s 56)=V.undef∧(demand (iaddrV o 6 x7 (s 6)) (fun x9=>quietV o (x9::[x7,(s 6)]) ∧
(s 57)=V.undef∧(demand (loadV o (some 6) x9) (fun x10=>quietV o (x10::[x9]) ∧
(s 58)=V.undef∧(demand (eqsV true [2,2,0,0,0,0] x5 x10) (fun x11=>quietV o (x11::[x5,x10]) ∧
condK x11
 (Q .ret (St.mk (look [(4,(V.d (.bool false)))]) (looko ([].map fun n=>(n,o n)))))
 (wpB C I R_c3 (St.mk (look [(2,s 2),(3,s 3),(6,s 6)]) (looko ([2,3].map fun n=>(n,o n)))) Q)))))))))))))))))))))):=rfl
@[instance] theorem g_ref08_Same_c4_u : UnfAt (wpB C I g_ref08_Same.c4 (St.mk s o) Q) g_ref08_Same_c4_sh := Unf.of _
abbrev u110:=CB.of g_ref08_Same.c5.eq_1
abbrev u111:=CB.of g_ref08_Same.c6.eq_1
abbrev u112:=CB.of g_ref08_Same.c7.eq_1
abbrev u113:=CB.of g_ref08_Same.code.eq_1
abbrev u114:=CB.of g_law09_ref.c0.eq_1
abbrev u115:=CB.of g_law09_ref.c1.eq_1
abbrev u116:=CB.of g_law09_ref.c2.eq_1
abbrev u117:=CB.of g_law09_ref.c3.eq_1
abbrev u118:=CB.of g_law09_ref.c4.eq_1
abbrev u119:=CB.of g_law09_ref.c5.eq_1
abbrev u120:=CB.of g_law09_ref.c6.eq_1
abbrev u121:=CB.of g_law09_ref.c7.eq_1
abbrev u122:=CB.of g_law09_ref.code.eq_1
abbrev u123:=OB.of g_lex_All.o1.eq_1
abbrev u124:=OB.of g_lex_All.o0.eq_1
abbrev u125:=CB.of g_lex_All.c0.eq_1
abbrev u126:=CB.of g_lex_All.c1.eq_1
abbrev u127:=CB.of g_lex_All.c2.eq_1
abbrev u128:=CB.of g_lex_All.c3.eq_1
abbrev u129:=CB.of g_lex_All.c4.eq_1
abbrev u130:=CB.of g_lex_All.c5.eq_1
abbrev u131:=CB.of g_lex_All.c6.eq_1
abbrev u132:=CB.of g_lex_All.c7.eq_1
abbrev u133:=CB.of g_lex_All.code.eq_1
theorem g_tree_parser_rule_t4_sh:treeB C I g_tree_parser_rule.a0 (.one 17 .done) (St.mk s o) K =
 ((([]:List Nat)=[]∧(demand (pickV (s 21) (s 25) (V.d (.bool false))) (fun x1 =>
K (St.mk (upd s 26 x1) o))))):=rfl
@[instance] theorem g_tree_parser_rule_t4_u : UnfAt (treeB C I g_tree_parser_rule.a0 g_tree_parser_rule.t4 (St.mk s o) K) g_tree_parser_rule_t4_sh := Unf.of _
theorem g_tree_parser_rule_t5_sh:treeB C I g_tree_parser_rule.a0 (.one 16 R_t4) (St.mk s o) K =
 ((([]:List Nat)=[]∧guardK (s 21) true
 (callE C I (St.mk s o) (some 25) 155 [(s 22),(s 24)] (fun r1 or1 =>
treeB C I g_tree_parser_rule.a0 R_t4 (St.mk (upd s 25 r1) or1) K))
 (treeB C I g_tree_parser_rule.a0 R_t4 (St.mk (upd s 25 (V.tup [])) o) K)
 (treeB C I g_tree_parser_rule.a0 R_t4 (St.mk (upd s 25 (V.tup [])) o) K))):=rfl
@[instance] theorem g_tree_parser_rule_t5_u : UnfAt (treeB C I g_tree_parser_rule.a0 g_tree_parser_rule.t5 (St.mk s o) K) g_tree_parser_rule_t5_sh := Unf.of _
theorem g_tree_parser_rule_t6_sh:treeB C I g_tree_parser_rule.a0 (.one 15 R_t5) (St.mk s o) K =
 ((([]:List Nat)=[]∧guardK (s 21) true
 (demand (loadV o none (s 23)) (fun x1 =>
treeB C I g_tree_parser_rule.a0 R_t5 (St.mk (upd s 24 x1) o) K))
 (treeB C I g_tree_parser_rule.a0 R_t5 (St.mk (upd s 24 (V.tup [])) o) K)
 (treeB C I g_tree_parser_rule.a0 R_t5 (St.mk (upd s 24 (V.tup [])) o) K))):=rfl
@[instance] theorem g_tree_parser_rule_t6_u : UnfAt (treeB C I g_tree_parser_rule.a0 g_tree_parser_rule.t6 (St.mk s o) K) g_tree_parser_rule_t6_sh := Unf.of _
theorem g_tree_parser_rule_t7_sh:treeB C I g_tree_parser_rule.a0 (.one 14 R_t6) (St.mk s o) K =
 ((([]:List Nat)=[]∧guardK (s 21) true
 (demand (faddrV 1 (s 2)) (fun x1 =>
treeB C I g_tree_parser_rule.a0 R_t6 (St.mk (upd s 23 x1) o) K))
 (treeB C I g_tree_parser_rule.a0 R_t6 (St.mk (upd s 23 (V.tup [])) o) K)
 (treeB C I g_tree_parser_rule.a0 R_t6 (St.mk (upd s 23 (V.tup [])) o) K))):=rfl
@[instance] theorem g_tree_parser_rule_t7_u : UnfAt (treeB C I g_tree_parser_rule.a0 g_tree_parser_rule.t7 (St.mk s o) K) g_tree_parser_rule_t7_sh := Unf.of _
theorem g_tree_parser_rule_t8_sh:treeB C I g_tree_parser_rule.a0 (.one 13 R_t5) (St.mk s o) K =
 ((([]:List Nat)=[]∧guardK (s 21) true
 (callE C I (St.mk s o) (some 22) 157 [] (fun r1 or1 =>
treeB C I g_tree_parser_rule.a0 R_t5 (St.mk (upd s 22 r1) or1) K))
 (treeB C I g_tree_parser_rule.a0 R_t5 (St.mk (upd s 22 (V.tup [])) o) K)
 (treeB C I g_tree_parser_rule.a0 R_t5 (St.mk (upd s 22 (V.tup [])) o) K))):=rfl
@[instance] theorem g_tree_parser_rule_t8_u : UnfAt (treeB C I g_tree_parser_rule.a0 g_tree_parser_rule.t8 (St.mk s o) K) g_tree_parser_rule_t8_sh := Unf.of _
theorem g_tree_parser_rule_t9_sh:treeB C I g_tree_parser_rule.a0 (.one 15 R_t8) (St.mk s o) K =
 ((([]:List Nat)=[]∧guardK (s 21) true
 (demand (loadV o none (s 23)) (fun x1 =>
treeB C I g_tree_parser_rule.a0 R_t8 (St.mk (upd s 24 x1) o) K))
 (treeB C I g_tree_parser_rule.a0 R_t8 (St.mk (upd s 24 (V.tup [])) o) K)
 (treeB C I g_tree_parser_rule.a0 R_t8 (St.mk (upd s 24 (V.tup [])) o) K))):=rfl
@[instance] theorem g_tree_parser_rule_t9_u : UnfAt (treeB C I g_tree_parser_rule.a0 g_tree_parser_rule.t9 (St.mk s o) K) g_tree_parser_rule_t9_sh := Unf.of _
theorem g_tree_parser_rule_t10_sh:treeB C I g_tree_parser_rule.a0 (.two 13 R_t6 R_t9) (St.mk s o) K =
 ((([]:List Nat)=[]∧guardK (s 21) true
 (callE C I (St.mk s o) (some 22) 157 [] (fun r1 or1 =>
treeB C I g_tree_parser_rule.a0 R_t6 (St.mk (upd s 22 r1) or1) K))
 (treeB C I g_tree_parser_rule.a0 R_t6 (St.mk (upd s 22 (V.tup [])) o) K)
 (treeB C I g_tree_parser_rule.a0 R_t6 (St.mk (upd s 22 (V.tup [])) o) K))∧treeB C I g_tree_parser_rule.a0 R_t9 (St.mk s o) K):=rfl
@[instance] theorem g_tree_parser_rule_t10_u : UnfAt (treeB C I g_tree_parser_rule.a0 g_tree_parser_rule.t10 (St.mk s o) K) g_tree_parser_rule_t10_sh := Unf.of _
theorem g_tree_parser_rule_t11_sh:treeB C I g_tree_parser_rule.a0 (.one 14 R_t10) (St.mk s o) K =
 ((([]:List Nat)=[]∧guardK (s 21) true
 (demand (faddrV 1 (s 2)) (fun x1 =>
treeB C I g_tree_parser_rule.a0 R_t10 (St.mk (upd s 23 x1) o) K))
 (treeB C I g_tree_parser_rule.a0 R_t10 (St.mk (upd s 23 (V.tup [])) o) K)
 (treeB C I g_tree_parser_rule.a0 R_t10 (St.mk (upd s 23 (V.tup [])) o) K))):=rfl
@[instance] theorem g_tree_parser_rule_t11_u : UnfAt (treeB C I g_tree_parser_rule.a0 g_tree_parser_rule.t11 (St.mk s o) K) g_tree_parser_rule_t11_sh := Unf.of _
theorem g_tree_parser_rule_t12_sh:treeB C I g_tree_parser_rule.a0 (.two 13 R_t7 R_t11) (St.mk s o) K =
 ((([]:List Nat)=[]∧guardK (s 21) true
 (callE C I (St.mk s o) (some 22) 157 [] (fun r1 or1 =>
treeB C I g_tree_parser_rule.a0 R_t7 (St.mk (upd s 22 r1) or1) K))
 (treeB C I g_tree_parser_rule.a0 R_t7 (St.mk (upd s 22 (V.tup [])) o) K)
 (treeB C I g_tree_parser_rule.a0 R_t7 (St.mk (upd s 22 (V.tup [])) o) K))∧treeB C I g_tree_parser_rule.a0 R_t11 (St.mk s o) K):=rfl
@[instance] theorem g_tree_parser_rule_t12_u : UnfAt (treeB C I g_tree_parser_rule.a0 g_tree_parser_rule.t12 (St.mk s o) K) g_tree_parser_rule_t12_sh := Unf.of _
theorem g_tree_parser_rule_t13_sh:treeB C I g_tree_parser_rule.a0 (.one 12 R_t12) (St.mk s o) K =
 ((([]:List Nat)=[]∧(treeB C I g_tree_parser_rule.a0 R_t12 (St.mk (upd s 21 (s 20)) o) K))):=rfl
@[instance] theorem g_tree_parser_rule_t13_u : UnfAt (treeB C I g_tree_parser_rule.a0 g_tree_parser_rule.t13 (St.mk s o) K) g_tree_parser_rule_t13_sh := Unf.of _
theorem g_tree_parser_rule_t14_sh:treeB C I g_tree_parser_rule.a0 (.one 11 R_t13) (St.mk s o) K =
 ((([]:List Nat)=[]∧(demand (pickV (s 16) (s 19) (V.d (.bool false))) (fun x1 =>
treeB C I g_tree_parser_rule.a0 R_t13 (St.mk (upd s 20 x1) o) K)))):=rfl
@[instance] theorem g_tree_parser_rule_t14_u : UnfAt (treeB C I g_tree_parser_rule.a0 g_tree_parser_rule.t14 (St.mk s o) K) g_tree_parser_rule_t14_sh := Unf.of _
theorem g_tree_parser_rule_t15_sh:treeB C I g_tree_parser_rule.a0 (.one 10 R_t14) (St.mk s o) K =
 ((([]:List Nat)=[]∧guardK (s 16) true
 (demand (binV BinOp.eql (s 18) (V.d (.int .i64 1))) (fun x1 =>
treeB C I g_tree_parser_rule.a0 R_t14 (St.mk (upd s 19 x1) o) K))
 (treeB C I g_tree_parser_rule.a0 R_t14 (St.mk (upd s 19 (V.tup [])) o) K)
 (treeB C I g_tree_parser_rule.a0 R_t14 (St.mk (upd s 19 (V.tup [])) o) K))):=rfl
@[instance] theorem g_tree_parser_rule_t15_u : UnfAt (treeB C I g_tree_parser_rule.a0 g_tree_parser_rule.t15 (St.mk s o) K) g_tree_parser_rule_t15_sh := Unf.of _
theorem g_tree_parser_rule_t16_sh:treeB C I g_tree_parser_rule.a0 (.one 9 R_t15) (St.mk s o) K =
 ((([]:List Nat)=[]∧guardK (s 16) true
 (demand (loadV o none (s 17)) (fun x1 =>
treeB C I g_tree_parser_rule.a0 R_t15 (St.mk (upd s 18 x1) o) K))
 (treeB C I g_tree_parser_rule.a0 R_t15 (St.mk (upd s 18 (V.tup [])) o) K)
 (treeB C I g_tree_parser_rule.a0 R_t15 (St.mk (upd s 18 (V.tup [])) o) K))):=rfl
@[instance] theorem g_tree_parser_rule_t16_u : UnfAt (treeB C I g_tree_parser_rule.a0 g_tree_parser_rule.t16 (St.mk s o) K) g_tree_parser_rule_t16_sh := Unf.of _
theorem g_tree_parser_rule_t17_sh:treeB C I g_tree_parser_rule.a0 (.one 8 R_t16) (St.mk s o) K =
 ((([]:List Nat)=[]∧guardK (s 16) true
 (demand (faddrV 0 (s 2)) (fun x1 =>
treeB C I g_tree_parser_rule.a0 R_t16 (St.mk (upd s 17 x1) o) K))
 (treeB C I g_tree_parser_rule.a0 R_t16 (St.mk (upd s 17 (V.tup [])) o) K)
 (treeB C I g_tree_parser_rule.a0 R_t16 (St.mk (upd s 17 (V.tup [])) o) K))):=rfl
@[instance] theorem g_tree_parser_rule_t17_u : UnfAt (treeB C I g_tree_parser_rule.a0 g_tree_parser_rule.t17 (St.mk s o) K) g_tree_parser_rule_t17_sh := Unf.of _
theorem g_tree_parser_rule_t18_sh:treeB C I g_tree_parser_rule.a0 (.one 7 R_t17) (St.mk s o) K =
 ((([]:List Nat)=[]∧(treeB C I g_tree_parser_rule.a0 R_t17 (St.mk (upd s 16 (s 15)) o) K))):=rfl
@[instance] theorem g_tree_parser_rule_t18_u : UnfAt (treeB C I g_tree_parser_rule.a0 g_tree_parser_rule.t18 (St.mk s o) K) g_tree_parser_rule_t18_sh := Unf.of _
theorem g_tree_parser_rule_t19_sh:treeB C I g_tree_parser_rule.a0 (.one 6 R_t18) (St.mk s o) K =
 ((([]:List Nat)=[]∧(demand (binV BinOp.geq (s 14) (V.d (.int .i64 60))) (fun x1 =>
treeB C I g_tree_parser_rule.a0 R_t18 (St.mk (upd s 15 x1) o) K)))):=rfl
@[instance] theorem g_tree_parser_rule_t19_u : UnfAt (treeB C I g_tree_parser_rule.a0 g_tree_parser_rule.t19 (St.mk s o) K) g_tree_parser_rule_t19_sh := Unf.of _
theorem g_tree_parser_rule_t20_sh:treeB C I g_tree_parser_rule.a0 (.one 5 R_t19) (St.mk s o) K =
 ((([]:List Nat)=[]∧(demand (lenV o (s 13)) (fun x1 =>
treeB C I g_tree_parser_rule.a0 R_t19 (St.mk (upd s 14 x1) o) K)))):=rfl
@[instance] theorem g_tree_parser_rule_t20_u : UnfAt (treeB C I g_tree_parser_rule.a0 g_tree_parser_rule.t20 (St.mk s o) K) g_tree_parser_rule_t20_sh := Unf.of _
theorem g_tree_parser_rule_t21_sh:treeB C I g_tree_parser_rule.a0 (.one 4 R_t20) (St.mk s o) K =
 ((([]:List Nat)=[]∧(demand (loadV o none (s 12)) (fun x1 =>
treeB C I g_tree_parser_rule.a0 R_t20 (St.mk (upd s 13 x1) o) K)))):=rfl
@[instance] theorem g_tree_parser_rule_t21_u : UnfAt (treeB C I g_tree_parser_rule.a0 g_tree_parser_rule.t21 (St.mk s o) K) g_tree_parser_rule_t21_sh := Unf.of _
theorem g_tree_parser_rule_i3_sh:drawB C I g_tree_parser_rule.a0 (3::[]) R_t21 (St.mk s o) K =
 ((s 12)=V.undef∧(demand (faddrV 0 (s 11)) (fun x1=>quietV o (x1::[(s 11)]) ∧
treeB C I g_tree_parser_rule.a0 R_t21 (St.mk (upd s 12 x1) o) K))):=rfl
@[instance] theorem g_tree_parser_rule_i3_u : UnfAt (drawB C I g_tree_parser_rule.a0 g_tree_parser_rule.i3 g_tree_parser_rule.t21 (St.mk s o) K) g_tree_parser_rule_i3_sh := Unf.of _
theorem g_tree_parser_rule_i2_sh:drawB C I g_tree_parser_rule.a0 (2::R_i3) R_t21 (St.mk s o) K =
 ((s 11)=V.undef∧(demand (faddrV 3 (s 10)) (fun x1=>quietV o (x1::[(s 10)]) ∧
drawB C I g_tree_parser_rule.a0 R_i3 R_t21 (St.mk (upd s 11 x1) o) K))):=rfl
@[instance] theorem g_tree_parser_rule_i2_u : UnfAt (drawB C I g_tree_parser_rule.a0 g_tree_parser_rule.i2 g_tree_parser_rule.t21 (St.mk s o) K) g_tree_parser_rule_i2_sh := Unf.of _
theorem g_tree_parser_rule_i1_sh:drawB C I g_tree_parser_rule.a0 (1::R_i2) R_t21 (St.mk s o) K =
 ((s 10)=V.undef∧(demand (nilcV (s 9)) (fun x1=>quietV o (x1::[(s 9)]) ∧
drawB C I g_tree_parser_rule.a0 R_i2 R_t21 (St.mk (upd s 10 x1) o) K))):=rfl
@[instance] theorem g_tree_parser_rule_i1_u : UnfAt (drawB C I g_tree_parser_rule.a0 g_tree_parser_rule.i1 g_tree_parser_rule.t21 (St.mk s o) K) g_tree_parser_rule_i1_sh := Unf.of _
abbrev u134:=CB.of g_tree_parser_rule.c0.eq_1
abbrev u135:=OB.of g_tree_parser_rule.o23.eq_1
abbrev u136:=OB.of g_tree_parser_rule.o22.eq_1
abbrev u137:=CB.of g_tree_parser_rule.c1.eq_1
theorem g_tree_parser_rule_t32_sh:treeB C I g_tree_parser_rule.a24 (.one 16 .done) (St.mk s o) K =
 ((([]:List Nat)=[]∧(storeK (s 80) (cellsV (s 77)) 1 o (fun m1 ob2 =>
K (St.mk s (upd o m1 (some ob2))))))):=rfl
@[instance] theorem g_tree_parser_rule_t32_u : UnfAt (treeB C I g_tree_parser_rule.a24 g_tree_parser_rule.t32 (St.mk s o) K) g_tree_parser_rule_t32_sh := Unf.of _
theorem g_tree_parser_rule_t33_sh:treeB C I g_tree_parser_rule.a24 (.one 15 R_t32) (St.mk s o) K =
 ((([]:List Nat)=[]∧(demand (faddrV 0 (s 79)) (fun x1 =>
treeB C I g_tree_parser_rule.a24 R_t32 (St.mk (upd s 80 x1) o) K)))):=rfl
@[instance] theorem g_tree_parser_rule_t33_u : UnfAt (treeB C I g_tree_parser_rule.a24 g_tree_parser_rule.t33 (St.mk s o) K) g_tree_parser_rule_t33_sh := Unf.of _
theorem g_tree_parser_rule_t34_sh:treeB C I g_tree_parser_rule.a24 (.one 14 R_t33) (St.mk s o) K =
 ((([]:List Nat)=[]∧(demand (faddrV 3 (s 78)) (fun x1 =>
treeB C I g_tree_parser_rule.a24 R_t33 (St.mk (upd s 79 x1) o) K)))):=rfl
@[instance] theorem g_tree_parser_rule_t34_u : UnfAt (treeB C I g_tree_parser_rule.a24 g_tree_parser_rule.t34 (St.mk s o) K) g_tree_parser_rule_t34_sh := Unf.of _
theorem g_tree_parser_rule_t35_sh:treeB C I g_tree_parser_rule.a24 (.one 13 R_t34) (St.mk s o) K =
 ((([]:List Nat)=[]∧(demand (nilcV (s 65)) (fun x1 =>
treeB C I g_tree_parser_rule.a24 R_t34 (St.mk (upd s 78 x1) o) K)))):=rfl
@[instance] theorem g_tree_parser_rule_t35_u : UnfAt (treeB C I g_tree_parser_rule.a24 g_tree_parser_rule.t35 (St.mk s o) K) g_tree_parser_rule_t35_sh := Unf.of _
theorem g_tree_parser_rule_t36_sh:treeB C I g_tree_parser_rule.a24 (.one 12 R_t35) (St.mk s o) K =
 ((([]:List Nat)=[]∧(lstK (readD o (s 76)) (fun ys1=>(∀ e∈ys1,e.length=3)∧appK (s 70)
 (ys1.length*40≤140737488355328∧ys1.length≤140737488355328∧¬I 77∧Fresh (St.mk s o) 77 (some 77) ∧
treeB C I g_tree_parser_rule.a24 R_t35 (St.mk (upd s 77 (V.own 77)) (upd o 77 (some (Ob.row 3 ys1)))) K)
 (fun m2=>¬I m2∧rowK (o m2) (fun z3 es4=>z3=3∧(es4.length+ys1.length)*40≤140737488355328∧es4.length+ys1.length≤140737488355328 ∧
treeB C I g_tree_parser_rule.a24 R_t35 (St.mk (upd (fun t=>scrubV m2 (s t)) 77 (V.own m2)) (upd (fun n=>(o n).map (Ob.scrub m2)) m2 (some (Ob.row 3 (es4++ys1))))) K)))))):=rfl
@[instance] theorem g_tree_parser_rule_t36_u : UnfAt (treeB C I g_tree_parser_rule.a24 g_tree_parser_rule.t36 (St.mk s o) K) g_tree_parser_rule_t36_sh := Unf.of _
theorem g_tree_parser_rule_t37_sh:treeB C I g_tree_parser_rule.a24 (.one 11 R_t36) (St.mk s o) K =
 ((([]:List Nat)=[]∧(lstK (partsN 3 [(s 75)]) (fun es1 =>
treeB C I g_tree_parser_rule.a24 R_t36 (St.mk (upd s 76 (V.d (D.sl es1))) o) K)))):=rfl
@[instance] theorem g_tree_parser_rule_t37_u : UnfAt (treeB C I g_tree_parser_rule.a24 g_tree_parser_rule.t37 (St.mk s o) K) g_tree_parser_rule_t37_sh := Unf.of _
theorem g_tree_parser_rule_t38_sh:treeB C I g_tree_parser_rule.a24 (.one 10 R_t37) (St.mk s o) K =
 ((([]:List Nat)=[]∧(demand ((buildN [V.d (.str []),V.d (.str []),V.d (.int .i64 0)] [(0,1,(s 71)),(1,1,(s 73)),(2,1,(s 74))]).map V.agg) (fun x1 =>
treeB C I g_tree_parser_rule.a24 R_t37 (St.mk (upd s 75 x1) o) K)))):=rfl
@[instance] theorem g_tree_parser_rule_t38_u : UnfAt (treeB C I g_tree_parser_rule.a24 g_tree_parser_rule.t38 (St.mk s o) K) g_tree_parser_rule_t38_sh := Unf.of _
theorem g_tree_parser_rule_t39_sh:treeB C I g_tree_parser_rule.a24 (.one 8 R_t38) (St.mk s o) K =
 ((([]:List Nat)=[]∧(demand (loadV o none (s 72)) (fun x1 =>
treeB C I g_tree_parser_rule.a24 R_t38 (St.mk (upd s 73 x1) o) K)))):=rfl
@[instance] theorem g_tree_parser_rule_t39_u : UnfAt (treeB C I g_tree_parser_rule.a24 g_tree_parser_rule.t39 (St.mk s o) K) g_tree_parser_rule_t39_sh := Unf.of _
theorem g_tree_parser_rule_t40_sh:treeB C I g_tree_parser_rule.a24 (.one 5 R_t36) (St.mk s o) K =
 ((([]:List Nat)=[]∧(demand (loadV o none (s 69)) (fun x1 =>
treeB C I g_tree_parser_rule.a24 R_t36 (St.mk (upd s 70 x1) o) K)))):=rfl
@[instance] theorem g_tree_parser_rule_t40_u : UnfAt (treeB C I g_tree_parser_rule.a24 g_tree_parser_rule.t40 (St.mk s o) K) g_tree_parser_rule_t40_sh := Unf.of _
theorem g_tree_parser_rule_t41_sh:treeB C I g_tree_parser_rule.a24 (.one 11 R_t40) (St.mk s o) K =
 ((([]:List Nat)=[]∧(lstK (partsN 3 [(s 75)]) (fun es1 =>
treeB C I g_tree_parser_rule.a24 R_t40 (St.mk (upd s 76 (V.d (D.sl es1))) o) K)))):=rfl
@[instance] theorem g_tree_parser_rule_t41_u : UnfAt (treeB C I g_tree_parser_rule.a24 g_tree_parser_rule.t41 (St.mk s o) K) g_tree_parser_rule_t41_sh := Unf.of _
theorem g_tree_parser_rule_t42_sh:treeB C I g_tree_parser_rule.a24 (.two 5 R_t37 R_t41) (St.mk s o) K =
 ((([]:List Nat)=[]∧(demand (loadV o none (s 69)) (fun x1 =>
treeB C I g_tree_parser_rule.a24 R_t37 (St.mk (upd s 70 x1) o) K)))∧treeB C I g_tree_parser_rule.a24 R_t41 (St.mk s o) K):=rfl
@[instance] theorem g_tree_parser_rule_t42_u : UnfAt (treeB C I g_tree_parser_rule.a24 g_tree_parser_rule.t42 (St.mk s o) K) g_tree_parser_rule_t42_sh := Unf.of _
theorem g_tree_parser_rule_t43_sh:treeB C I g_tree_parser_rule.a24 (.one 10 R_t42) (St.mk s o) K =
 ((([]:List Nat)=[]∧(demand ((buildN [V.d (.str []),V.d (.str []),V.d (.int .i64 0)] [(0,1,(s 71)),(1,1,(s 73)),(2,1,(s 74))]).map V.agg) (fun x1 =>
treeB C I g_tree_parser_rule.a24 R_t42 (St.mk (upd s 75 x1) o) K)))):=rfl
@[instance] theorem g_tree_parser_rule_t43_u : UnfAt (treeB C I g_tree_parser_rule.a24 g_tree_parser_rule.t43 (St.mk s o) K) g_tree_parser_rule_t43_sh := Unf.of _
theorem g_tree_parser_rule_t44_sh:treeB C I g_tree_parser_rule.a24 (.two 5 R_t38 R_t43) (St.mk s o) K =
 ((([]:List Nat)=[]∧(demand (loadV o none (s 69)) (fun x1 =>
treeB C I g_tree_parser_rule.a24 R_t38 (St.mk (upd s 70 x1) o) K)))∧treeB C I g_tree_parser_rule.a24 R_t43 (St.mk s o) K):=rfl
@[instance] theorem g_tree_parser_rule_t44_u : UnfAt (treeB C I g_tree_parser_rule.a24 g_tree_parser_rule.t44 (St.mk s o) K) g_tree_parser_rule_t44_sh := Unf.of _
theorem g_tree_parser_rule_t45_sh:treeB C I g_tree_parser_rule.a24 (.one 8 R_t44) (St.mk s o) K =
 ((([]:List Nat)=[]∧(demand (loadV o none (s 72)) (fun x1 =>
treeB C I g_tree_parser_rule.a24 R_t44 (St.mk (upd s 73 x1) o) K)))):=rfl
@[instance] theorem g_tree_parser_rule_t45_u : UnfAt (treeB C I g_tree_parser_rule.a24 g_tree_parser_rule.t45 (St.mk s o) K) g_tree_parser_rule_t45_sh := Unf.of _
theorem g_tree_parser_rule_t46_sh:treeB C I g_tree_parser_rule.a24 (.two 5 R_t39 R_t45) (St.mk s o) K =
 ((([]:List Nat)=[]∧(demand (loadV o none (s 69)) (fun x1 =>
treeB C I g_tree_parser_rule.a24 R_t39 (St.mk (upd s 70 x1) o) K)))∧treeB C I g_tree_parser_rule.a24 R_t45 (St.mk s o) K):=rfl
@[instance] theorem g_tree_parser_rule_t46_u : UnfAt (treeB C I g_tree_parser_rule.a24 g_tree_parser_rule.t46 (St.mk s o) K) g_tree_parser_rule_t46_sh := Unf.of _
theorem g_tree_parser_rule_i31_sh:drawB C I g_tree_parser_rule.a24 (9::[]) R_t46 (St.mk s o) K =
 ((s 74)=V.undef∧(quietV o ((s 6)::[(s 6)]) ∧
treeB C I g_tree_parser_rule.a24 R_t46 (St.mk (upd s 74 (s 6)) o) K)):=rfl
@[instance] theorem g_tree_parser_rule_i31_u : UnfAt (drawB C I g_tree_parser_rule.a24 g_tree_parser_rule.i31 g_tree_parser_rule.t46 (St.mk s o) K) g_tree_parser_rule_i31_sh := Unf.of _
theorem g_tree_parser_rule_i30_sh:drawB C I g_tree_parser_rule.a24 (7::R_i31) R_t46 (St.mk s o) K =
 ((s 72)=V.undef∧(demand (faddrV 1 (s 5)) (fun x1=>quietV o (x1::[(s 5)]) ∧
drawB C I g_tree_parser_rule.a24 R_i31 R_t46 (St.mk (upd s 72 x1) o) K))):=rfl
@[instance] theorem g_tree_parser_rule_i30_u : UnfAt (drawB C I g_tree_parser_rule.a24 g_tree_parser_rule.i30 g_tree_parser_rule.t46 (St.mk s o) K) g_tree_parser_rule_i30_sh := Unf.of _
theorem g_tree_parser_rule_i29_sh:drawB C I g_tree_parser_rule.a24 (6::R_i30) R_t46 (St.mk s o) K =
 ((s 71)=V.undef∧(quietV o ((s 3)::[(s 3)]) ∧
drawB C I g_tree_parser_rule.a24 R_i30 R_t46 (St.mk (upd s 71 (s 3)) o) K)):=rfl
@[instance] theorem g_tree_parser_rule_i29_u : UnfAt (drawB C I g_tree_parser_rule.a24 g_tree_parser_rule.i29 g_tree_parser_rule.t46 (St.mk s o) K) g_tree_parser_rule_i29_sh := Unf.of _
theorem g_tree_parser_rule_i28_sh:drawB C I g_tree_parser_rule.a24 (4::R_i29) R_t46 (St.mk s o) K =
 ((s 69)=V.undef∧(demand (faddrV 0 (s 68)) (fun x1=>quietV o (x1::[(s 68)]) ∧
drawB C I g_tree_parser_rule.a24 R_i29 R_t46 (St.mk (upd s 69 x1) o) K))):=rfl
@[instance] theorem g_tree_parser_rule_i28_u : UnfAt (drawB C I g_tree_parser_rule.a24 g_tree_parser_rule.i28 g_tree_parser_rule.t46 (St.mk s o) K) g_tree_parser_rule_i28_sh := Unf.of _
theorem g_tree_parser_rule_i27_sh:drawB C I g_tree_parser_rule.a24 (3::R_i28) R_t46 (St.mk s o) K =
 ((s 68)=V.undef∧(demand (faddrV 3 (s 67)) (fun x1=>quietV o (x1::[(s 67)]) ∧
drawB C I g_tree_parser_rule.a24 R_i28 R_t46 (St.mk (upd s 68 x1) o) K))):=rfl
@[instance] theorem g_tree_parser_rule_i27_u : UnfAt (drawB C I g_tree_parser_rule.a24 g_tree_parser_rule.i27 g_tree_parser_rule.t46 (St.mk s o) K) g_tree_parser_rule_i27_sh := Unf.of _
theorem g_tree_parser_rule_i26_sh:drawB C I g_tree_parser_rule.a24 (2::R_i27) R_t46 (St.mk s o) K =
 ((s 67)=V.undef∧(demand (nilcV (s 66)) (fun x1=>quietV o (x1::[(s 66)]) ∧
drawB C I g_tree_parser_rule.a24 R_i27 R_t46 (St.mk (upd s 67 x1) o) K))):=rfl
@[instance] theorem g_tree_parser_rule_i26_u : UnfAt (drawB C I g_tree_parser_rule.a24 g_tree_parser_rule.i26 g_tree_parser_rule.t46 (St.mk s o) K) g_tree_parser_rule_i26_sh := Unf.of _
theorem g_tree_parser_rule_i25_sh:drawB C I g_tree_parser_rule.a24 (1::R_i26) R_t46 (St.mk s o) K =
 ((s 66)=V.undef∧(quietV o ((s 0)::[(s 0)]) ∧
drawB C I g_tree_parser_rule.a24 R_i26 R_t46 (St.mk (upd s 66 (s 0)) o) K)):=rfl
@[instance] theorem g_tree_parser_rule_i25_u : UnfAt (drawB C I g_tree_parser_rule.a24 g_tree_parser_rule.i25 g_tree_parser_rule.t46 (St.mk s o) K) g_tree_parser_rule_i25_sh := Unf.of _
theorem g_tree_parser_rule_c2_sh:wpB C I (g_tree_parser_rule.c2F R_i25 R_t46) (St.mk s o) Q =
 (callK C I (St.mk (upd s 59 (s 0)) o) (some 60) 220 [(s 0),(V.d (.str [61]))] (fun r1 or1 =>
callK C I (St.mk (upd (look [(0,s 0),(3,s 3),(5,s 5)]) 61 (s 0)) or1) (some 62) 221 [(s 0),(V.d (.int .i64 1))] (fun r2 or2 =>
callK C I (St.mk (upd (look [(0,s 0),(3,s 3),(5,s 5),(6,r2)]) 63 (s 0)) or2) (some 64) 220 [(s 0),(V.d (.str [59]))] (fun r3 or3 =>
V.undef=V.undef∧(quietV or3 ((s 0)::[(s 0)]) ∧
drawB C I g_tree_parser_rule.a24 R_i25 R_t46 (St.mk (upd (look [(0,s 0),(3,s 3),(5,s 5),(6,r2)]) 65 (s 0)) or3) (fun st=>Q .normal (St.trim st [] none))))))):=rfl
@[instance] theorem g_tree_parser_rule_c2_u : UnfAt (wpB C I g_tree_parser_rule.c2 (St.mk s o) Q) g_tree_parser_rule_c2_sh := Unf.of _
abbrev u138:=CB.of g_tree_parser_rule.c3.eq_1
abbrev u139:=CB.of g_tree_parser_rule.c4.eq_1
abbrev u140:=CB.of g_tree_parser_rule.c5.eq_1
abbrev u141:=CB.of g_tree_parser_rule.c6.eq_1
abbrev u142:=CB.of g_tree_parser_rule.c7.eq_1
theorem g_tree_parser_rule_c8_sh:wpB C I (g_tree_parser_rule.c8F R_i1 R_t21 R_c0 R_c7) (St.mk s o) Q =
 ((s 9)=V.undef∧(quietV o ((s 0)::[(s 0)]) ∧
drawB C I g_tree_parser_rule.a0 R_i1 R_t21 (St.mk (upd s 9 (s 0)) o) (fun st=>(seqK (fun st=>wpB C I R_c0 st (seqK (fun st=>wpB C I R_c7 st Q) Q)) (seqK (fun st=>wpB C I R_c7 st Q) Q)) .normal (St.trim st [0,26] none)))):=rfl
@[instance] theorem g_tree_parser_rule_c8_u : UnfAt (wpB C I g_tree_parser_rule.c8 (St.mk s o) Q) g_tree_parser_rule_c8_sh := Unf.of _
abbrev u143:=CB.of g_tree_parser_rule.code.eq_1
abbrev u144:=OB.of g_ref07_All.o1.eq_1
abbrev u145:=OB.of g_ref07_All.o0.eq_1
abbrev u146:=OB.of g_ref07_All.o3.eq_1
abbrev u147:=OB.of g_ref07_All.o2.eq_1
abbrev u148:=CB.of g_ref07_All.c0.eq_1
abbrev u149:=CB.of g_ref07_All.c1.eq_1
abbrev u150:=CB.of g_ref07_All.c2.eq_1
abbrev u151:=CB.of g_ref07_All.c3.eq_1
abbrev u152:=CB.of g_ref07_All.c4.eq_1
abbrev u153:=OB.of g_ref07_All.o13.eq_1
abbrev u154:=OB.of g_ref07_All.o12.eq_1
abbrev u155:=OB.of g_ref07_All.o11.eq_1
abbrev u156:=OB.of g_ref07_All.o10.eq_1
abbrev u157:=OB.of g_ref07_All.o9.eq_1
abbrev u158:=OB.of g_ref07_All.o8.eq_1
abbrev u159:=OB.of g_ref07_All.o7.eq_1
abbrev u160:=OB.of g_ref07_All.o6.eq_1
abbrev u161:=OB.of g_ref07_All.o5.eq_1
abbrev u162:=OB.of g_ref07_All.o4.eq_1
abbrev u163:=CB.of g_ref07_All.c5.eq_1
abbrev u164:=CB.of g_ref07_All.c6.eq_1
abbrev u165:=CB.of g_ref07_All.c7.eq_1
abbrev u166:=CB.of g_ref07_All.c8.eq_1
abbrev u167:=CB.of g_ref07_All.c9.eq_1
abbrev u168:=CB.of g_ref07_All.c10.eq_1
abbrev u169:=CB.of g_ref07_All.c11.eq_1
abbrev u170:=CB.of g_ref07_All.c12.eq_1
abbrev u171:=CB.of g_ref07_All.c13.eq_1
abbrev u172:=CB.of g_ref07_All.code.eq_1
abbrev u173:=OB.of g_ref08_text.o3.eq_1
abbrev u174:=OB.of g_ref08_text.o2.eq_1
abbrev u175:=OB.of g_ref08_text.o1.eq_1
abbrev u176:=OB.of g_ref08_text.o0.eq_1
abbrev u177:=CB.of g_ref08_text.c0.eq_1
abbrev u178:=CB.of g_ref08_text.c1.eq_1
abbrev u179:=CB.of g_ref08_text.code.eq_1
abbrev u180:=CB.of g_ref08_one.c0.eq_1
abbrev u181:=CB.of g_ref08_one.c1.eq_1
abbrev u182:=CB.of g_ref08_one.c2.eq_1
abbrev u183:=CB.of g_ref08_one.code.eq_1
abbrev u184:=CB.of g_ref08_wrong.c0.eq_1
abbrev u185:=CB.of g_ref08_wrong.c1.eq_1
abbrev u186:=CB.of g_ref08_wrong.code.eq_1
abbrev u187:=CB.of g_ref08_Taken.code.eq_1
abbrev u188:=CB.of g_ref08_whole.c0.eq_1
abbrev u189:=CB.of g_ref08_whole.c1.eq_1
abbrev u190:=CB.of g_ref08_whole.c2.eq_1
abbrev u191:=CB.of g_ref08_whole.c3.eq_1
abbrev u192:=CB.of g_ref08_whole.c4.eq_1
abbrev u193:=CB.of g_ref08_whole.c5.eq_1
abbrev u194:=CB.of g_ref08_whole.c6.eq_1
abbrev u195:=CB.of g_ref08_whole.code.eq_1
abbrev u196:=CB.of g_ref08_must.c0.eq_1
abbrev u197:=CB.of g_ref08_must.c1.eq_1
abbrev u198:=CB.of g_ref08_must.c2.eq_1
abbrev u199:=CB.of g_ref08_must.code.eq_1
abbrev u200:=OB.of g_show_sound.o1.eq_1
abbrev u201:=OB.of g_show_sound.o0.eq_1
abbrev u202:=CB.of g_show_sound.c0.eq_1
abbrev u203:=CB.of g_show_sound.c1.eq_1
abbrev u204:=CB.of g_show_sound.c2.eq_1
abbrev u205:=OB.of g_show_sound.o3.eq_1
abbrev u206:=OB.of g_show_sound.o2.eq_1
abbrev u207:=CB.of g_show_sound.c3.eq_1
abbrev u208:=CB.of g_show_sound.c4.eq_1
abbrev u209:=CB.of g_show_sound.c5.eq_1
abbrev u210:=CB.of g_show_sound.c6.eq_1
abbrev u211:=CB.of g_show_sound.c7.eq_1
abbrev u212:=OB.of g_show_sound.o9.eq_1
abbrev u213:=OB.of g_show_sound.o8.eq_1
abbrev u214:=OB.of g_show_sound.o7.eq_1
abbrev u215:=OB.of g_show_sound.o6.eq_1
abbrev u216:=OB.of g_show_sound.o5.eq_1
abbrev u217:=OB.of g_show_sound.o4.eq_1
abbrev u218:=CB.of g_show_sound.c8.eq_1
abbrev u219:=CB.of g_show_sound.c9.eq_1
abbrev u220:=CB.of g_show_sound.c10.eq_1
abbrev u221:=CB.of g_show_sound.c11.eq_1
abbrev u222:=CB.of g_show_sound.c12.eq_1
abbrev u223:=CB.of g_show_sound.c13.eq_1
abbrev u224:=CB.of g_show_sound.code.eq_1
theorem g_show_text_c0_sh:wpB C I (g_show_text.c0) (St.mk s o) Q =
 ((s 13)=V.undef∧(demand (faddrV 0 (s 5)) (fun x1=>quietV o (x1::[(s 5)]) ∧
(s 14)=V.undef∧(demand (loadV o none x1) (fun x2=>quietV o (x2::[x1]) ∧
(s 15)=V.undef∧(demand (binV BinOp.add x2 (V.d (.str [32]))) (fun x3=>quietV o (x3::[x2,(V.d (.str [32]))]) ∧
(s 16)=V.undef∧(demand (faddrV 1 (s 5)) (fun x4=>quietV o (x4::[(s 5)]) ∧
(s 17)=V.undef∧(demand (loadV o none x4) (fun x5=>quietV o (x5::[x4]) ∧
(s 18)=V.undef∧(demand (binV BinOp.add x3 x5) (fun x6=>quietV o (x6::[x3,x5]) ∧
(s 19)=V.undef∧(demand (binV BinOp.add x6 (V.d (.str [32,61,32]))) (fun x7=>quietV o (x7::[x6,(V.d (.str [32,61,32]))]) ∧
(s 20)=V.undef∧(demand (loadV o (some 2) (s 1)) (fun x8=>quietV o (x8::[(s 1)]) ∧
(s 21)=V.undef∧(demand (faddrV 2 (s 5)) (fun x9=>quietV o (x9::[(s 5)]) ∧
(s 22)=V.undef∧(demand (loadV o none x9) (fun x10=>quietV o (x10::[x9]) ∧
(s 23)=V.undef∧(∃ x11,SoundAt C 200 ⟨[x8,x10],fun _=>none⟩ ⟨x11,fun _=>none⟩∧(∀ n,V.refs n x11=false)∧quietV o (x11::[x8,x10]) ∧
(s 24)=V.undef∧(demand (binV BinOp.add x7 x11) (fun x12=>quietV o (x12::[x7,x11]) ∧
(s 25)=V.undef∧(demand (binV BinOp.add x12 (V.d (.str [59,10]))) (fun x13=>quietV o (x13::[x12,(V.d (.str [59,10]))]) ∧
(([]:List Nat)=[]∧(fnK (V.fn 128 []) (fun f15 cs16=>callK C I (St.mk (upd (upd (upd (upd (upd (upd (upd (upd (upd (upd (upd (upd (upd s 13 x1) 14 x2) 15 x3) 16 x4) 17 x5) 18 x6) 19 x7) 20 x8) 21 x9) 22 x10) 23 x11) 24 x12) 25 x13) o) (some 26) f15 ([(s 3),x13]++cs16) (fun r14 or14 =>
Q .normal (St.mk (look [(1,s 1),(3,s 3),(7,s 7),(8,s 8),(9,s 9)]) (looko ([1,3,503].map fun n=>(n,or14 n)))))))))))))))))))))))))))))))))):=rfl
@[instance] theorem g_show_text_c0_u : UnfAt (wpB C I g_show_text.c0 (St.mk s o) Q) g_show_text_c0_sh := Unf.of _
abbrev u225:=CB.of g_show_text.c1.eq_1
abbrev u226:=CB.of g_show_text.c2.eq_1
abbrev u227:=CB.of g_show_text.c3.eq_1
abbrev u228:=CB.of g_show_text.code.eq_1
abbrev u229:=OB.of g_show_same.o1.eq_1
abbrev u230:=OB.of g_show_same.o0.eq_1
abbrev u231:=CB.of g_show_same.c0.eq_1
abbrev u232:=CB.of g_show_same.c1.eq_1
theorem g_show_same_l0_sh (hL:R_l0=g_show_same.l0F R_c1)
 (h:demand (binV BinOp.lss (s 26) (s 25)) (fun x1 =>
condK x1
 (V.undef=V.undef∧(demand (faddrV 0 (s 2)) (fun x2=>quietV (looko ([2,3].map fun n=>(n,o n))) (x2::[(s 2)]) ∧
V.undef=V.undef∧(demand (loadV (looko ([2,3].map fun n=>(n,o n))) none x2) (fun x3=>quietV (looko ([2,3].map fun n=>(n,o n))) (x3::[x2]) ∧
V.undef=V.undef∧(quietV (looko ([2,3].map fun n=>(n,o n))) ((s 26)::[(s 26)]) ∧
V.undef=V.undef∧(demand (iaddrV (looko ([2,3].map fun n=>(n,o n))) 3 x3 (s 26)) (fun x5=>quietV (looko ([2,3].map fun n=>(n,o n))) (x5::[x3,(s 26)]) ∧
V.undef=V.undef∧(demand (loadV (looko ([2,3].map fun n=>(n,o n))) (some 3) x5) (fun x6=>quietV (looko ([2,3].map fun n=>(n,o n))) (x6::[x5]) ∧
V.undef=V.undef∧(demand (faddrV 0 (s 3)) (fun x7=>quietV (looko ([2,3].map fun n=>(n,o n))) (x7::[(s 3)]) ∧
V.undef=V.undef∧(demand (loadV (looko ([2,3].map fun n=>(n,o n))) none x7) (fun x8=>quietV (looko ([2,3].map fun n=>(n,o n))) (x8::[x7]) ∧
V.undef=V.undef∧(quietV (looko ([2,3].map fun n=>(n,o n))) ((s 26)::[(s 26)]) ∧
V.undef=V.undef∧(demand (iaddrV (looko ([2,3].map fun n=>(n,o n))) 3 x8 (s 26)) (fun x10=>quietV (looko ([2,3].map fun n=>(n,o n))) (x10::[x8,(s 26)]) ∧
V.undef=V.undef∧(demand (loadV (looko ([2,3].map fun n=>(n,o n))) (some 3) x10) (fun x11=>quietV (looko ([2,3].map fun n=>(n,o n))) (x11::[x10]) ∧
V.undef=V.undef∧(demand (eqsV true [2,2,0] x6 x11) (fun x12=>quietV (looko ([2,3].map fun n=>(n,o n))) (x12::[x6,x11]) ∧
condK x12
 (Q .ret (St.mk (look [(4,(V.d (.bool false)))]) (looko ([].map fun n=>(n,o n)))))
 (wpB C I R_c1 (St.mk (look [(2,s 2),(3,s 3),(25,s 25),(26,s 26)]) (looko ([2,3].map fun n=>(n,o n)))) (seqK (fun s=>wpB C I R_l0 s Q) Q)))))))))))))))))))))))
 (Q (.exit 0) (St.mk (look [(2,s 2),(3,s 3),(25,s 25),(26,s 26),(27,x1)]) (looko ([2,3].map fun n=>(n,o n))))))):wpB C I R_l0 (St.mk s o) Q:=w_loopC hL h
abbrev u233:=CB.of g_show_same.c2.eq_1
abbrev u234:=CB.of g_show_same.c3.eq_1
theorem g_show_same_l1_sh (hL:R_l1=g_show_same.l1F R_c3)
 (h:demand (binV BinOp.lss (s 44) (s 43)) (fun x1 =>
condK x1
 (V.undef=V.undef∧(demand (faddrV 1 (s 2)) (fun x2=>quietV (looko ([2,3].map fun n=>(n,o n))) (x2::[(s 2)]) ∧
V.undef=V.undef∧(demand (loadV (looko ([2,3].map fun n=>(n,o n))) none x2) (fun x3=>quietV (looko ([2,3].map fun n=>(n,o n))) (x3::[x2]) ∧
V.undef=V.undef∧(quietV (looko ([2,3].map fun n=>(n,o n))) ((s 44)::[(s 44)]) ∧
V.undef=V.undef∧(demand (iaddrV (looko ([2,3].map fun n=>(n,o n))) 6 x3 (s 44)) (fun x5=>quietV (looko ([2,3].map fun n=>(n,o n))) (x5::[x3,(s 44)]) ∧
V.undef=V.undef∧(demand (loadV (looko ([2,3].map fun n=>(n,o n))) (some 6) x5) (fun x6=>quietV (looko ([2,3].map fun n=>(n,o n))) (x6::[x5]) ∧
V.undef=V.undef∧(demand (faddrV 1 (s 3)) (fun x7=>quietV (looko ([2,3].map fun n=>(n,o n))) (x7::[(s 3)]) ∧
V.undef=V.undef∧(demand (loadV (looko ([2,3].map fun n=>(n,o n))) none x7) (fun x8=>quietV (looko ([2,3].map fun n=>(n,o n))) (x8::[x7]) ∧
V.undef=V.undef∧(quietV (looko ([2,3].map fun n=>(n,o n))) ((s 44)::[(s 44)]) ∧
V.undef=V.undef∧(demand (iaddrV (looko ([2,3].map fun n=>(n,o n))) 6 x8 (s 44)) (fun x10=>quietV (looko ([2,3].map fun n=>(n,o n))) (x10::[x8,(s 44)]) ∧
V.undef=V.undef∧(demand (loadV (looko ([2,3].map fun n=>(n,o n))) (some 6) x10) (fun x11=>quietV (looko ([2,3].map fun n=>(n,o n))) (x11::[x10]) ∧
V.undef=V.undef∧(demand (eqsV true [2,2,0,0,0,0] x6 x11) (fun x12=>quietV (looko ([2,3].map fun n=>(n,o n))) (x12::[x6,x11]) ∧
condK x12
 (Q .ret (St.mk (look [(4,(V.d (.bool false)))]) (looko ([].map fun n=>(n,o n)))))
 (wpB C I R_c3 (St.mk (look [(2,s 2),(3,s 3),(43,s 43),(44,s 44)]) (looko ([2,3].map fun n=>(n,o n)))) (seqK (fun s=>wpB C I R_l1 s Q) Q)))))))))))))))))))))))
 (Q (.exit 2) (St.mk (look [(2,s 2),(3,s 3),(43,s 43),(44,s 44),(45,x1)]) (looko ([2,3].map fun n=>(n,o n))))))):wpB C I R_l1 (St.mk s o) Q:=w_loopC hL h
abbrev u235:=CB.of g_show_same.c4.eq_1
abbrev u236:=CB.of g_show_same.c5.eq_1
abbrev u237:=CB.of g_show_same.c6.eq_1
abbrev u238:=CB.of g_show_same.c7.eq_1
abbrev u239:=CB.of g_show_same.code.eq_1
abbrev u240:=OB.of g_show_write.o1.eq_1
abbrev u241:=OB.of g_show_write.o0.eq_1
abbrev u242:=CB.of g_show_write.c0.eq_1
abbrev u243:=CB.of g_show_write.c1.eq_1
theorem g_show_write_c2_sh:wpB C I (g_show_write.c2F R_c1) (St.mk s o) Q =
 (demand (loadV o (some 6) (s 9)) (fun x1 =>
callK C I (St.mk (upd s 49 x1) o) (some 50) 210 [x1] (fun r2 or2 =>
V.undef=V.undef∧(demand (faddrV 0 (s 9)) (fun x3=>quietV (looko ([2,5,8,9,13,50,58,60,63,68,505].map fun n=>(n,or2 n))) (x3::[(s 9)]) ∧
V.undef=V.undef∧(demand (loadV (looko ([2,5,8,9,13,50,58,60,63,68,505].map fun n=>(n,or2 n))) none x3) (fun x4=>quietV (looko ([2,5,8,9,13,50,58,60,63,68,505].map fun n=>(n,or2 n))) (x4::[x3]) ∧
V.undef=V.undef∧(∃ x5,SoundAt C 211 ⟨[x4],fun _=>none⟩ ⟨x5,fun _=>none⟩∧(∀ n,V.refs n x5=false)∧quietV (looko ([2,5,8,9,13,50,58,60,63,68,505].map fun n=>(n,or2 n))) (x5::[x4]) ∧
V.undef=V.undef∧(demand (faddrV 2 (s 8)) (fun x6=>quietV (looko ([2,5,8,9,13,50,58,60,63,68,505].map fun n=>(n,or2 n))) (x6::[(s 8)]) ∧
V.undef=V.undef∧(demand (loadV (looko ([2,5,8,9,13,50,58,60,63,68,505].map fun n=>(n,or2 n))) none x6) (fun x7=>quietV (looko ([2,5,8,9,13,50,58,60,63,68,505].map fun n=>(n,or2 n))) (x7::[x6]) ∧
V.undef=V.undef∧(demand (binV BinOp.lss x5 x7) (fun x8=>quietV (looko ([2,5,8,9,13,50,58,60,63,68,505].map fun n=>(n,or2 n))) (x8::[x5,x7]) ∧
condK x8
 (demand ((buildN [V.d (.str []),V.d (.int .i64 0),V.d (.int .i64 0)] [(0,1,(V.d (.str [40])))]).map V.agg) (fun x9 =>
lstK (partsN 3 [x9]) (fun es10=>¬I 58∧Fresh (St.mk (upd (look [(2,s 2),(5,s 5),(6,s 6),(7,s 7),(10,r2),(56,x8)]) 57 x9) (looko ([2,5,13,50,58,60,63,68,505].map fun n=>(n,or2 n)))) 58 (some 58) ∧
lstK (readD (upd (looko ([2,5,13,50,58,60,63,68,505].map fun n=>(n,or2 n))) 58 (some (Ob.row 3 es10))) r2) (fun ys11=>(∀ e∈ys11,e.length=3)∧appK (V.own 58)
 (ys11.length*32≤140737488355328∧ys11.length≤140737488355328∧¬I 60∧Fresh (St.mk (upd (upd (upd (look [(2,s 2),(5,s 5),(6,s 6),(7,s 7),(10,r2),(56,x8)]) 57 x9) 58 (V.own 58)) 59 r2) (upd (looko ([2,5,13,50,58,60,63,68,505].map fun n=>(n,or2 n))) 58 (some (Ob.row 3 es10)))) 60 (some 60) ∧
demand ((buildN [V.d (.str []),V.d (.int .i64 0),V.d (.int .i64 0)] [(0,1,(V.d (.str [41])))]).map V.agg) (fun x16 =>
lstK (partsN 3 [x16]) (fun es17 =>
lstK (readD (upd (upd (looko ([2,5,13,50,58,60,63,68,505].map fun n=>(n,or2 n))) 58 (some (Ob.row 3 es10))) 60 (some (Ob.row 3 ys11))) (V.d (D.sl es17))) (fun ys18=>(∀ e∈ys18,e.length=3)∧appK (V.own 60)
 (ys18.length*32≤140737488355328∧ys18.length≤140737488355328∧¬I 63∧Fresh (St.mk (upd (upd (upd (upd (upd (upd (look [(2,s 2),(5,s 5),(6,s 6),(7,s 7),(10,r2),(56,x8)]) 57 x9) 58 (V.own 58)) 59 r2) 60 (V.own 60)) 61 x16) 62 (V.d (D.sl es17))) (upd (upd (looko ([2,5,13,50,58,60,63,68,505].map fun n=>(n,or2 n))) 58 (some (Ob.row 3 es10))) 60 (some (Ob.row 3 ys11)))) 63 (some 63) ∧
wpB C I R_c1 (St.mk (look [(2,s 2),(5,s 5),(6,s 6),(7,s 7),(10,(V.own 63))]) (looko ([2,5,13,50,58,60,63,68,505].map fun n=>(n,(upd (upd (upd (looko ([2,5,13,50,58,60,63,68,505].map fun n=>(n,or2 n))) 58 (some (Ob.row 3 es10))) 60 (some (Ob.row 3 ys11))) 63 (some (Ob.row 3 ys18))) n)))) Q)
 (fun m19=>¬I m19∧rowK ((upd (upd (looko ([2,5,13,50,58,60,63,68,505].map fun n=>(n,or2 n))) 58 (some (Ob.row 3 es10))) 60 (some (Ob.row 3 ys11))) m19) (fun z20 es21=>z20=3∧(es21.length+ys18.length)*32≤140737488355328∧es21.length+ys18.length≤140737488355328 ∧
wpB C I R_c1 (St.mk (look [(2,(scrubV m19 (s 2))),(5,(scrubV m19 (s 5))),(6,(scrubV m19 (s 6))),(7,(scrubV m19 (s 7))),(10,(V.own m19))]) (looko ([2,5,13,50,58,60,63,68,505].map fun n=>(n,(upd (fun n=>((upd (upd (looko ([2,5,13,50,58,60,63,68,505].map fun n=>(n,or2 n))) 58 (some (Ob.row 3 es10))) 60 (some (Ob.row 3 ys11))) n).map (Ob.scrub m19)) m19 (some (Ob.row 3 (es21++ys18)))) n)))) Q))))))
 (fun m12=>¬I m12∧rowK ((upd (looko ([2,5,13,50,58,60,63,68,505].map fun n=>(n,or2 n))) 58 (some (Ob.row 3 es10))) m12) (fun z13 es14=>z13=3∧(es14.length+ys11.length)*32≤140737488355328∧es14.length+ys11.length≤140737488355328 ∧
demand ((buildN [V.d (.str []),V.d (.int .i64 0),V.d (.int .i64 0)] [(0,1,(V.d (.str [41])))]).map V.agg) (fun x23 =>
lstK (partsN 3 [x23]) (fun es24 =>
lstK (readD (upd (fun n=>((upd (looko ([2,5,13,50,58,60,63,68,505].map fun n=>(n,or2 n))) 58 (some (Ob.row 3 es10))) n).map (Ob.scrub m12)) m12 (some (Ob.row 3 (es14++ys11)))) (V.d (D.sl es24))) (fun ys25=>(∀ e∈ys25,e.length=3)∧appK (V.own m12)
 (ys25.length*32≤140737488355328∧ys25.length≤140737488355328∧¬I 63∧Fresh (St.mk (upd (upd (upd (fun t=>scrubV m12 ((upd (upd (upd (look [(2,s 2),(5,s 5),(6,s 6),(7,s 7),(10,r2),(56,x8)]) 57 x9) 58 (V.own 58)) 59 r2) t)) 60 (V.own m12)) 61 x23) 62 (V.d (D.sl es24))) (upd (fun n=>((upd (looko ([2,5,13,50,58,60,63,68,505].map fun n=>(n,or2 n))) 58 (some (Ob.row 3 es10))) n).map (Ob.scrub m12)) m12 (some (Ob.row 3 (es14++ys11))))) 63 (some 63) ∧
wpB C I R_c1 (St.mk (look [(2,(scrubV m12 (s 2))),(5,(scrubV m12 (s 5))),(6,(scrubV m12 (s 6))),(7,(scrubV m12 (s 7))),(10,(V.own 63))]) (looko ([2,5,13,50,58,60,63,68,505].map fun n=>(n,(upd (upd (fun n=>((upd (looko ([2,5,13,50,58,60,63,68,505].map fun n=>(n,or2 n))) 58 (some (Ob.row 3 es10))) n).map (Ob.scrub m12)) m12 (some (Ob.row 3 (es14++ys11)))) 63 (some (Ob.row 3 ys25))) n)))) Q)
 (fun m26=>¬I m26∧rowK ((upd (fun n=>((upd (looko ([2,5,13,50,58,60,63,68,505].map fun n=>(n,or2 n))) 58 (some (Ob.row 3 es10))) n).map (Ob.scrub m12)) m12 (some (Ob.row 3 (es14++ys11)))) m26) (fun z27 es28=>z27=3∧(es28.length+ys25.length)*32≤140737488355328∧es28.length+ys25.length≤140737488355328 ∧
wpB C I R_c1 (St.mk (look [(2,(scrubV m26 (scrubV m12 (s 2)))),(5,(scrubV m26 (scrubV m12 (s 5)))),(6,(scrubV m26 (scrubV m12 (s 6)))),(7,(scrubV m26 (scrubV m12 (s 7)))),(10,(V.own m26))]) (looko ([2,5,13,50,58,60,63,68,505].map fun n=>(n,(upd (fun n=>((upd (fun n=>((upd (looko ([2,5,13,50,58,60,63,68,505].map fun n=>(n,or2 n))) 58 (some (Ob.row 3 es10))) n).map (Ob.scrub m12)) m12 (some (Ob.row 3 (es14++ys11)))) n).map (Ob.scrub m26)) m26 (some (Ob.row 3 (es28++ys25)))) n)))) Q)))))))))))
 (wpB C I R_c1 (St.mk (look [(2,s 2),(5,s 5),(6,s 6),(7,s 7),(10,r2),(56,x8)]) (looko ([2,5,13,50,58,60,63,68,505].map fun n=>(n,or2 n)))) Q))))))))))))))):=rfl
@[instance] theorem g_show_write_c2_u : UnfAt (wpB C I g_show_write.c2 (St.mk s o) Q) g_show_write_c2_sh := Unf.of _
abbrev u244:=CB.of g_show_write.c3.eq_1
abbrev u245:=CB.of g_show_write.c4.eq_1
abbrev u246:=CB.of g_show_write.c5.eq_1
abbrev u247:=CB.of g_show_write.c6.eq_1
abbrev u248:=CB.of g_show_write.c7.eq_1
abbrev u249:=CB.of g_show_write.c8.eq_1
abbrev u250:=CB.of g_show_write.c9.eq_1
abbrev u251:=CB.of g_show_write.code.eq_1
abbrev u252:=CB.of g_ref09_level.c0.eq_1
abbrev u253:=CB.of g_ref09_level.c1.eq_1
abbrev u254:=CB.of g_ref09_level.c2.eq_1
abbrev u255:=CB.of g_ref09_level.c3.eq_1
abbrev u256:=CB.of g_ref09_level.code.eq_1
abbrev u257:=CB.of g_ref01_Digits.c0.eq_1
abbrev u258:=CB.of g_ref01_Digits.c1.eq_1
abbrev u259:=CB.of g_ref01_Digits.code.eq_1
abbrev u260:=CB.of g_ref01_Text.c0.eq_1
abbrev u261:=CB.of g_ref01_Text.code.eq_1
abbrev u262:=CB.of g_ref09_held.c0.eq_1
abbrev u263:=CB.of g_ref09_held.code.eq_1
abbrev u264:=OB.of g_lex_run.o1.eq_1
abbrev u265:=OB.of g_lex_run.o0.eq_1
abbrev u266:=CB.of g_lex_run.c0.eq_1
abbrev u267:=CB.of g_lex_run.c1.eq_1
abbrev u268:=CB.of g_lex_run.c2.eq_1
abbrev u269:=CB.of g_lex_run.code.eq_1
abbrev u270:=CB.of g_lex_All_1.code.eq_1
abbrev u271:=CB.of g_lex_one.c0.eq_1
abbrev u272:=CB.of g_lex_one.c1.eq_1
abbrev u273:=CB.of g_lex_one.c2.eq_1
abbrev u274:=CB.of g_lex_one.c3.eq_1
abbrev u275:=CB.of g_lex_one.c4.eq_1
abbrev u276:=CB.of g_lex_one.c5.eq_1
abbrev u277:=CB.of g_lex_one.c6.eq_1
abbrev u278:=CB.of g_lex_one.code.eq_1
abbrev u279:=CB.of g_tree_parser_token.c0.eq_1
theorem g_tree_parser_token_code_sh:wpB C I (g_tree_parser_token.codeF R_c0) (St.mk s o) Q =
 ((¬I 2∧Fresh (St.mk s o) 2 (some 2)∧V.refsL 2 [V.d (.int .i64 0),V.d (.str []),V.d (.int .i64 0)]=false ∧
V.undef=V.undef∧(quietV (upd o 2 (some (Ob.box [V.d (.int .i64 0),V.d (.str []),V.d (.int .i64 0)]))) ((s 0)::[(s 0)]) ∧
V.undef=V.undef∧(demand (nilcV (s 0)) (fun x2=>quietV (upd o 2 (some (Ob.box [V.d (.int .i64 0),V.d (.str []),V.d (.int .i64 0)]))) (x2::[(s 0)]) ∧
V.undef=V.undef∧(demand (faddrV 2 x2) (fun x3=>quietV (upd o 2 (some (Ob.box [V.d (.int .i64 0),V.d (.str []),V.d (.int .i64 0)]))) (x3::[x2]) ∧
V.undef=V.undef∧(demand (loadV (upd o 2 (some (Ob.box [V.d (.int .i64 0),V.d (.str []),V.d (.int .i64 0)]))) none x3) (fun x4=>quietV (upd o 2 (some (Ob.box [V.d (.int .i64 0),V.d (.str []),V.d (.int .i64 0)]))) (x4::[x3]) ∧
V.undef=V.undef∧(quietV (upd o 2 (some (Ob.box [V.d (.int .i64 0),V.d (.str []),V.d (.int .i64 0)]))) ((s 0)::[(s 0)]) ∧
V.undef=V.undef∧(demand (nilcV (s 0)) (fun x6=>quietV (upd o 2 (some (Ob.box [V.d (.int .i64 0),V.d (.str []),V.d (.int .i64 0)]))) (x6::[(s 0)]) ∧
V.undef=V.undef∧(demand (faddrV 0 x6) (fun x7=>quietV (upd o 2 (some (Ob.box [V.d (.int .i64 0),V.d (.str []),V.d (.int .i64 0)]))) (x7::[x6]) ∧
V.undef=V.undef∧(demand (loadV (upd o 2 (some (Ob.box [V.d (.int .i64 0),V.d (.str []),V.d (.int .i64 0)]))) none x7) (fun x8=>quietV (upd o 2 (some (Ob.box [V.d (.int .i64 0),V.d (.str []),V.d (.int .i64 0)]))) (x8::[x7]) ∧
V.undef=V.undef∧(demand (lenV (upd o 2 (some (Ob.box [V.d (.int .i64 0),V.d (.str []),V.d (.int .i64 0)]))) x8) (fun x9=>quietV (upd o 2 (some (Ob.box [V.d (.int .i64 0),V.d (.str []),V.d (.int .i64 0)]))) (x9::[x8]) ∧
V.undef=V.undef∧(demand (binV BinOp.lss x4 x9) (fun x10=>quietV (upd o 2 (some (Ob.box [V.d (.int .i64 0),V.d (.str []),V.d (.int .i64 0)]))) (x10::[x4,x9]) ∧
condK x10
 (V.undef=V.undef∧(quietV (upd o 2 (some (Ob.box [V.d (.int .i64 0),V.d (.str []),V.d (.int .i64 0)]))) ((s 0)::[(s 0)]) ∧
V.undef=V.undef∧(demand (nilcV (s 0)) (fun x12=>quietV (upd o 2 (some (Ob.box [V.d (.int .i64 0),V.d (.str []),V.d (.int .i64 0)]))) (x12::[(s 0)]) ∧
V.undef=V.undef∧(demand (faddrV 0 x12) (fun x13=>quietV (upd o 2 (some (Ob.box [V.d (.int .i64 0),V.d (.str []),V.d (.int .i64 0)]))) (x13::[x12]) ∧
V.undef=V.undef∧(demand (loadV (upd o 2 (some (Ob.box [V.d (.int .i64 0),V.d (.str []),V.d (.int .i64 0)]))) none x13) (fun x14=>quietV (upd o 2 (some (Ob.box [V.d (.int .i64 0),V.d (.str []),V.d (.int .i64 0)]))) (x14::[x13]) ∧
V.undef=V.undef∧(quietV (upd o 2 (some (Ob.box [V.d (.int .i64 0),V.d (.str []),V.d (.int .i64 0)]))) ((s 0)::[(s 0)]) ∧
V.undef=V.undef∧(demand (nilcV (s 0)) (fun x16=>quietV (upd o 2 (some (Ob.box [V.d (.int .i64 0),V.d (.str []),V.d (.int .i64 0)]))) (x16::[(s 0)]) ∧
V.undef=V.undef∧(demand (faddrV 2 x16) (fun x17=>quietV (upd o 2 (some (Ob.box [V.d (.int .i64 0),V.d (.str []),V.d (.int .i64 0)]))) (x17::[x16]) ∧
V.undef=V.undef∧(demand (loadV (upd o 2 (some (Ob.box [V.d (.int .i64 0),V.d (.str []),V.d (.int .i64 0)]))) none x17) (fun x18=>quietV (upd o 2 (some (Ob.box [V.d (.int .i64 0),V.d (.str []),V.d (.int .i64 0)]))) (x18::[x17]) ∧
V.undef=V.undef∧(demand (iaddrV (upd o 2 (some (Ob.box [V.d (.int .i64 0),V.d (.str []),V.d (.int .i64 0)]))) 3 x14 x18) (fun x19=>quietV (upd o 2 (some (Ob.box [V.d (.int .i64 0),V.d (.str []),V.d (.int .i64 0)]))) (x19::[x14,x18]) ∧
V.undef=V.undef∧(demand (loadV (upd o 2 (some (Ob.box [V.d (.int .i64 0),V.d (.str []),V.d (.int .i64 0)]))) (some 3) x19) (fun x20=>quietV (upd o 2 (some (Ob.box [V.d (.int .i64 0),V.d (.str []),V.d (.int .i64 0)]))) (x20::[x19]) ∧
(([]:List Nat)=[]∧(storeK (V.ptr 2 0) (cellsV x20) 3 (upd o 2 (some (Ob.box [V.d (.int .i64 0),V.d (.str []),V.d (.int .i64 0)]))) (fun m21 ob22 =>
Q .ret (St.mk (look [(2,(V.ptr 2 0))]) (upd (upd o 2 (some (Ob.box [V.d (.int .i64 0),V.d (.str []),V.d (.int .i64 0)]))) m21 (some ob22)))))))))))))))))))))))))
 (wpB C I R_c0 (St.mk (look [(0,s 0),(2,(V.ptr 2 0)),(12,x10)]) (upd o 2 (some (Ob.box [V.d (.int .i64 0),V.d (.str []),V.d (.int .i64 0)])))) Q))))))))))))))))))))):=rfl
@[instance] theorem g_tree_parser_token_code_u : UnfAt (wpB C I g_tree_parser_token.code (St.mk s o) Q) g_tree_parser_token_code_sh := Unf.of _
abbrev u280:=CB.of g_slices_Contains_string.code.eq_1
abbrev u281:=CB.of g_tree_kinds.code.eq_1
abbrev u282:=CB.of g_tree_parser_fail.code.eq_1
abbrev u283:=OB.of g_tree_parser_take.o5.eq_1
abbrev u284:=OB.of g_tree_parser_take.o4.eq_1
abbrev u285:=OB.of g_tree_parser_take.o3.eq_1
abbrev u286:=OB.of g_tree_parser_take.o2.eq_1
abbrev u287:=OB.of g_tree_parser_take.o1.eq_1
abbrev u288:=OB.of g_tree_parser_take.o0.eq_1
abbrev u289:=CB.of g_tree_parser_take.c0.eq_1
abbrev u290:=CB.of g_tree_parser_take.c1.eq_1
abbrev u291:=CB.of g_tree_parser_take.c2.eq_1
abbrev u292:=CB.of g_tree_parser_take.c3.eq_1
abbrev u293:=CB.of g_tree_parser_take.code.eq_1
abbrev u294:=CB.of g_tree_named.code.eq_1
abbrev u295:=CB.of g_tree_parser_need.c0.eq_1
abbrev u296:=CB.of g_tree_parser_need.code.eq_1
abbrev u297:=CB.of g_tree_parser_expression.c0.eq_1
abbrev u298:=CB.of g_tree_parser_expression.c1.eq_1
abbrev u299:=CB.of g_tree_parser_expression.c2.eq_1
abbrev u300:=CB.of g_tree_parser_expression.c3.eq_1
abbrev u301:=CB.of g_tree_parser_expression.c4.eq_1
abbrev u302:=CB.of g_tree_parser_expression.c5.eq_1
abbrev u303:=CB.of g_tree_parser_expression.c6.eq_1
abbrev u304:=CB.of g_tree_parser_expression.c7.eq_1
abbrev u305:=CB.of g_tree_parser_expression.c8.eq_1
abbrev u306:=CB.of g_tree_parser_expression.c9.eq_1
abbrev u307:=CB.of g_tree_parser_expression.c10.eq_1
abbrev u308:=CB.of g_tree_parser_expression.code.eq_1
abbrev u309:=CB.of g_ref07_in.c0.eq_1
abbrev u310:=CB.of g_ref07_in.c1.eq_1
abbrev u311:=CB.of g_ref07_in.c2.eq_1
abbrev u312:=CB.of g_ref07_in.code.eq_1
abbrev u313:=OB.of g_ref07_end.o1.eq_1
abbrev u314:=OB.of g_ref07_end.o0.eq_1
abbrev u315:=CB.of g_ref07_end.c0.eq_1
abbrev u316:=CB.of g_ref07_end.c1.eq_1
abbrev u317:=CB.of g_ref07_end.c2.eq_1
abbrev u318:=CB.of g_ref07_end.code.eq_1
abbrev u319:=CB.of g_ref07_kind.c0.eq_1
abbrev u320:=CB.of g_ref07_kind.c1.eq_1
abbrev u321:=CB.of g_ref07_kind.code.eq_1
abbrev u322:=OB.of g_ref08_chain.o1.eq_1
abbrev u323:=OB.of g_ref08_chain.o0.eq_1
abbrev u324:=CB.of g_ref08_chain.c0.eq_1
abbrev u325:=CB.of g_ref08_chain.c1.eq_1
abbrev u326:=CB.of g_ref08_chain.c2.eq_1
abbrev u327:=CB.of g_ref08_chain.c3.eq_1
abbrev u328:=CB.of g_ref08_chain.c4.eq_1
abbrev u329:=CB.of g_ref08_chain.c5.eq_1
abbrev u330:=CB.of g_ref08_chain.c6.eq_1
abbrev u331:=CB.of g_ref08_chain.c7.eq_1
abbrev u332:=CB.of g_ref08_chain.c8.eq_1
abbrev u333:=CB.of g_ref08_chain.code.eq_1
abbrev u334:=CB.of g_ref08_put.c0.eq_1
abbrev u335:=CB.of g_ref08_put.c1.eq_1
abbrev u336:=CB.of g_ref08_put.c2.eq_1
abbrev u337:=CB.of g_ref08_put.code.eq_1
abbrev u338:=CB.of g_show_parts.c0.eq_1
abbrev u339:=CB.of g_show_parts.c1.eq_1
abbrev u340:=CB.of g_show_parts.c2.eq_1
abbrev u341:=CB.of g_show_parts.c3.eq_1
abbrev u342:=CB.of g_show_parts.code.eq_1
abbrev u343:=CB.of g_show_level.c0.eq_1
abbrev u344:=CB.of g_show_level.c1.eq_1
abbrev u345:=CB.of g_show_level.c2.eq_1
abbrev u346:=CB.of g_show_level.code.eq_1
theorem g_slices_Reverse_item_t8_sh:treeB C I g_slices_Reverse_item.a0 (.one 15 .done) (St.mk s o) K =
 ((([]:List Nat)=[]∧(storeK (s 27) (cellsV (s 25)) 3 o (fun m1 ob2 =>
K (St.mk s (upd o m1 (some ob2))))))):=rfl
@[instance] theorem g_slices_Reverse_item_t8_u : UnfAt (treeB C I g_slices_Reverse_item.a0 g_slices_Reverse_item.t8 (St.mk s o) K) g_slices_Reverse_item_t8_sh := Unf.of _
theorem g_slices_Reverse_item_t9_sh:treeB C I g_slices_Reverse_item.a0 (.one 14 R_t8) (St.mk s o) K =
 ((([]:List Nat)=[]∧(demand (iaddrV o 3 (s 16) (s 17)) (fun x1 =>
treeB C I g_slices_Reverse_item.a0 R_t8 (St.mk (upd s 27 x1) o) K)))):=rfl
@[instance] theorem g_slices_Reverse_item_t9_u : UnfAt (treeB C I g_slices_Reverse_item.a0 g_slices_Reverse_item.t9 (St.mk s o) K) g_slices_Reverse_item_t9_sh := Unf.of _
theorem g_slices_Reverse_item_t10_sh:treeB C I g_slices_Reverse_item.a0 (.one 13 R_t9) (St.mk s o) K =
 ((([]:List Nat)=[]∧(storeK (s 26) (cellsV (s 21)) 3 o (fun m1 ob2 =>
treeB C I g_slices_Reverse_item.a0 R_t9 (St.mk s (upd o m1 (some ob2))) K)))):=rfl
@[instance] theorem g_slices_Reverse_item_t10_u : UnfAt (treeB C I g_slices_Reverse_item.a0 g_slices_Reverse_item.t10 (St.mk s o) K) g_slices_Reverse_item_t10_sh := Unf.of _
theorem g_slices_Reverse_item_t11_sh:treeB C I g_slices_Reverse_item.a0 (.one 12 R_t10) (St.mk s o) K =
 ((([]:List Nat)=[]∧(demand (iaddrV o 3 (s 14) (s 15)) (fun x1 =>
treeB C I g_slices_Reverse_item.a0 R_t10 (St.mk (upd s 26 x1) o) K)))):=rfl
@[instance] theorem g_slices_Reverse_item_t11_u : UnfAt (treeB C I g_slices_Reverse_item.a0 g_slices_Reverse_item.t11 (St.mk s o) K) g_slices_Reverse_item_t11_sh := Unf.of _
theorem g_slices_Reverse_item_t12_sh:treeB C I g_slices_Reverse_item.a0 (.one 11 R_t11) (St.mk s o) K =
 ((([]:List Nat)=[]∧(demand (loadV o (some 3) (s 24)) (fun x1 =>
treeB C I g_slices_Reverse_item.a0 R_t11 (St.mk (upd s 25 x1) o) K)))):=rfl
@[instance] theorem g_slices_Reverse_item_t12_u : UnfAt (treeB C I g_slices_Reverse_item.a0 g_slices_Reverse_item.t12 (St.mk s o) K) g_slices_Reverse_item_t12_sh := Unf.of _
theorem g_slices_Reverse_item_t13_sh:treeB C I g_slices_Reverse_item.a0 (.one 10 R_t12) (St.mk s o) K =
 ((([]:List Nat)=[]∧(demand (iaddrV o 3 (s 22) (s 23)) (fun x1 =>
treeB C I g_slices_Reverse_item.a0 R_t12 (St.mk (upd s 24 x1) o) K)))):=rfl
@[instance] theorem g_slices_Reverse_item_t13_u : UnfAt (treeB C I g_slices_Reverse_item.a0 g_slices_Reverse_item.t13 (St.mk s o) K) g_slices_Reverse_item_t13_sh := Unf.of _
theorem g_slices_Reverse_item_t14_sh:treeB C I g_slices_Reverse_item.a0 (.one 7 R_t11) (St.mk s o) K =
 ((([]:List Nat)=[]∧(demand (loadV o (some 3) (s 20)) (fun x1 =>
treeB C I g_slices_Reverse_item.a0 R_t11 (St.mk (upd s 21 x1) o) K)))):=rfl
@[instance] theorem g_slices_Reverse_item_t14_u : UnfAt (treeB C I g_slices_Reverse_item.a0 g_slices_Reverse_item.t14 (St.mk s o) K) g_slices_Reverse_item_t14_sh := Unf.of _
theorem g_slices_Reverse_item_t15_sh:treeB C I g_slices_Reverse_item.a0 (.one 11 R_t14) (St.mk s o) K =
 ((([]:List Nat)=[]∧(demand (loadV o (some 3) (s 24)) (fun x1 =>
treeB C I g_slices_Reverse_item.a0 R_t14 (St.mk (upd s 25 x1) o) K)))):=rfl
@[instance] theorem g_slices_Reverse_item_t15_u : UnfAt (treeB C I g_slices_Reverse_item.a0 g_slices_Reverse_item.t15 (St.mk s o) K) g_slices_Reverse_item_t15_sh := Unf.of _
theorem g_slices_Reverse_item_t16_sh:treeB C I g_slices_Reverse_item.a0 (.two 7 R_t12 R_t15) (St.mk s o) K =
 ((([]:List Nat)=[]∧(demand (loadV o (some 3) (s 20)) (fun x1 =>
treeB C I g_slices_Reverse_item.a0 R_t12 (St.mk (upd s 21 x1) o) K)))∧treeB C I g_slices_Reverse_item.a0 R_t15 (St.mk s o) K):=rfl
@[instance] theorem g_slices_Reverse_item_t16_u : UnfAt (treeB C I g_slices_Reverse_item.a0 g_slices_Reverse_item.t16 (St.mk s o) K) g_slices_Reverse_item_t16_sh := Unf.of _
theorem g_slices_Reverse_item_t17_sh:treeB C I g_slices_Reverse_item.a0 (.one 10 R_t16) (St.mk s o) K =
 ((([]:List Nat)=[]∧(demand (iaddrV o 3 (s 22) (s 23)) (fun x1 =>
treeB C I g_slices_Reverse_item.a0 R_t16 (St.mk (upd s 24 x1) o) K)))):=rfl
@[instance] theorem g_slices_Reverse_item_t17_u : UnfAt (treeB C I g_slices_Reverse_item.a0 g_slices_Reverse_item.t17 (St.mk s o) K) g_slices_Reverse_item_t17_sh := Unf.of _
theorem g_slices_Reverse_item_t18_sh:treeB C I g_slices_Reverse_item.a0 (.two 7 R_t13 R_t17) (St.mk s o) K =
 ((([]:List Nat)=[]∧(demand (loadV o (some 3) (s 20)) (fun x1 =>
treeB C I g_slices_Reverse_item.a0 R_t13 (St.mk (upd s 21 x1) o) K)))∧treeB C I g_slices_Reverse_item.a0 R_t17 (St.mk s o) K):=rfl
@[instance] theorem g_slices_Reverse_item_t18_u : UnfAt (treeB C I g_slices_Reverse_item.a0 g_slices_Reverse_item.t18 (St.mk s o) K) g_slices_Reverse_item_t18_sh := Unf.of _
theorem g_slices_Reverse_item_t19_sh:treeB C I g_slices_Reverse_item.a0 (.one 6 R_t14) (St.mk s o) K =
 ((([]:List Nat)=[]∧(demand (iaddrV o 3 (s 18) (s 19)) (fun x1 =>
treeB C I g_slices_Reverse_item.a0 R_t14 (St.mk (upd s 20 x1) o) K)))):=rfl
@[instance] theorem g_slices_Reverse_item_t19_u : UnfAt (treeB C I g_slices_Reverse_item.a0 g_slices_Reverse_item.t19 (St.mk s o) K) g_slices_Reverse_item_t19_sh := Unf.of _
theorem g_slices_Reverse_item_t20_sh:treeB C I g_slices_Reverse_item.a0 (.one 11 R_t19) (St.mk s o) K =
 ((([]:List Nat)=[]∧(demand (loadV o (some 3) (s 24)) (fun x1 =>
treeB C I g_slices_Reverse_item.a0 R_t19 (St.mk (upd s 25 x1) o) K)))):=rfl
@[instance] theorem g_slices_Reverse_item_t20_u : UnfAt (treeB C I g_slices_Reverse_item.a0 g_slices_Reverse_item.t20 (St.mk s o) K) g_slices_Reverse_item_t20_sh := Unf.of _
theorem g_slices_Reverse_item_t21_sh:treeB C I g_slices_Reverse_item.a0 (.two 6 R_t16 R_t20) (St.mk s o) K =
 ((([]:List Nat)=[]∧(demand (iaddrV o 3 (s 18) (s 19)) (fun x1 =>
treeB C I g_slices_Reverse_item.a0 R_t16 (St.mk (upd s 20 x1) o) K)))∧treeB C I g_slices_Reverse_item.a0 R_t20 (St.mk s o) K):=rfl
@[instance] theorem g_slices_Reverse_item_t21_u : UnfAt (treeB C I g_slices_Reverse_item.a0 g_slices_Reverse_item.t21 (St.mk s o) K) g_slices_Reverse_item_t21_sh := Unf.of _
theorem g_slices_Reverse_item_t22_sh:treeB C I g_slices_Reverse_item.a0 (.one 10 R_t21) (St.mk s o) K =
 ((([]:List Nat)=[]∧(demand (iaddrV o 3 (s 22) (s 23)) (fun x1 =>
treeB C I g_slices_Reverse_item.a0 R_t21 (St.mk (upd s 24 x1) o) K)))):=rfl
@[instance] theorem g_slices_Reverse_item_t22_u : UnfAt (treeB C I g_slices_Reverse_item.a0 g_slices_Reverse_item.t22 (St.mk s o) K) g_slices_Reverse_item_t22_sh := Unf.of _
theorem g_slices_Reverse_item_t23_sh:treeB C I g_slices_Reverse_item.a0 (.two 6 R_t18 R_t22) (St.mk s o) K =
 ((([]:List Nat)=[]∧(demand (iaddrV o 3 (s 18) (s 19)) (fun x1 =>
treeB C I g_slices_Reverse_item.a0 R_t18 (St.mk (upd s 20 x1) o) K)))∧treeB C I g_slices_Reverse_item.a0 R_t22 (St.mk s o) K):=rfl
@[instance] theorem g_slices_Reverse_item_t23_u : UnfAt (treeB C I g_slices_Reverse_item.a0 g_slices_Reverse_item.t23 (St.mk s o) K) g_slices_Reverse_item_t23_sh := Unf.of _
theorem g_slices_Reverse_item_i7_sh:drawB C I g_slices_Reverse_item.a0 (9::[]) R_t23 (St.mk s o) K =
 ((s 23)=V.undef∧(quietV o ((s 2)::[(s 2)]) ∧
treeB C I g_slices_Reverse_item.a0 R_t23 (St.mk (upd s 23 (s 2)) o) K)):=rfl
@[instance] theorem g_slices_Reverse_item_i7_u : UnfAt (drawB C I g_slices_Reverse_item.a0 g_slices_Reverse_item.i7 g_slices_Reverse_item.t23 (St.mk s o) K) g_slices_Reverse_item_i7_sh := Unf.of _
theorem g_slices_Reverse_item_i6_sh:drawB C I g_slices_Reverse_item.a0 (2008::R_i7) R_t23 (St.mk s o) K =
 ((s 22)=V.undef∧(drawB C I g_slices_Reverse_item.a0 R_i7 R_t23 (St.mk (upd s 22 (s 0)) o) K)):=rfl
@[instance] theorem g_slices_Reverse_item_i6_u : UnfAt (drawB C I g_slices_Reverse_item.a0 g_slices_Reverse_item.i6 g_slices_Reverse_item.t23 (St.mk s o) K) g_slices_Reverse_item_i6_sh := Unf.of _
theorem g_slices_Reverse_item_i5_sh:drawB C I g_slices_Reverse_item.a0 (5::R_i6) R_t23 (St.mk s o) K =
 ((s 19)=V.undef∧(quietV o ((s 3)::[(s 3)]) ∧
drawB C I g_slices_Reverse_item.a0 R_i6 R_t23 (St.mk (upd s 19 (s 3)) o) K)):=rfl
@[instance] theorem g_slices_Reverse_item_i5_u : UnfAt (drawB C I g_slices_Reverse_item.a0 g_slices_Reverse_item.i5 g_slices_Reverse_item.t23 (St.mk s o) K) g_slices_Reverse_item_i5_sh := Unf.of _
theorem g_slices_Reverse_item_i4_sh:drawB C I g_slices_Reverse_item.a0 (2004::R_i5) R_t23 (St.mk s o) K =
 ((s 18)=V.undef∧(drawB C I g_slices_Reverse_item.a0 R_i5 R_t23 (St.mk (upd s 18 (s 0)) o) K)):=rfl
@[instance] theorem g_slices_Reverse_item_i4_u : UnfAt (drawB C I g_slices_Reverse_item.a0 g_slices_Reverse_item.i4 g_slices_Reverse_item.t23 (St.mk s o) K) g_slices_Reverse_item_i4_sh := Unf.of _
theorem g_slices_Reverse_item_i3_sh:drawB C I g_slices_Reverse_item.a0 (3::R_i4) R_t23 (St.mk s o) K =
 ((s 17)=V.undef∧(quietV o ((s 3)::[(s 3)]) ∧
drawB C I g_slices_Reverse_item.a0 R_i4 R_t23 (St.mk (upd s 17 (s 3)) o) K)):=rfl
@[instance] theorem g_slices_Reverse_item_i3_u : UnfAt (drawB C I g_slices_Reverse_item.a0 g_slices_Reverse_item.i3 g_slices_Reverse_item.t23 (St.mk s o) K) g_slices_Reverse_item_i3_sh := Unf.of _
theorem g_slices_Reverse_item_i2_sh:drawB C I g_slices_Reverse_item.a0 (2002::R_i3) R_t23 (St.mk s o) K =
 ((s 16)=V.undef∧(drawB C I g_slices_Reverse_item.a0 R_i3 R_t23 (St.mk (upd s 16 (s 0)) o) K)):=rfl
@[instance] theorem g_slices_Reverse_item_i2_u : UnfAt (drawB C I g_slices_Reverse_item.a0 g_slices_Reverse_item.i2 g_slices_Reverse_item.t23 (St.mk s o) K) g_slices_Reverse_item_i2_sh := Unf.of _
theorem g_slices_Reverse_item_i1_sh:drawB C I g_slices_Reverse_item.a0 (1::R_i2) R_t23 (St.mk s o) K =
 ((s 15)=V.undef∧(quietV o ((s 2)::[(s 2)]) ∧
drawB C I g_slices_Reverse_item.a0 R_i2 R_t23 (St.mk (upd s 15 (s 2)) o) K)):=rfl
@[instance] theorem g_slices_Reverse_item_i1_u : UnfAt (drawB C I g_slices_Reverse_item.a0 g_slices_Reverse_item.i1 g_slices_Reverse_item.t23 (St.mk s o) K) g_slices_Reverse_item_i1_sh := Unf.of _
abbrev u347:=CB.of g_slices_Reverse_item.c0.eq_1
theorem g_slices_Reverse_item_l0_sh (hL:R_l0=g_slices_Reverse_item.l0F R_i1 R_t23 R_c0)
 (h:demand (binV BinOp.lss (s 2) (s 3)) (fun x1 =>
condK x1
 (V.undef=V.undef∧(drawB C I g_slices_Reverse_item.a0 R_i1 R_t23 (St.mk (upd (look [(0,s 0),(2,s 2),(3,s 3),(9,x1)]) 14 (s 0)) o) (fun st=>(blockK 1 [0,2,3] none (seqK (fun st=>wpB C I R_c0 st (seqK (fun s=>wpB C I R_l0 s Q) Q)) (seqK (fun s=>wpB C I R_l0 s Q) Q))) .normal (St.trim st [0,2,3] none))))
 (Q (.exit 0) (St.mk (look [(0,s 0),(2,s 2),(3,s 3),(9,x1)]) o)))):wpB C I R_l0 (St.mk s o) Q:=w_loopC hL h
abbrev u348:=CB.of g_slices_Reverse_item.c1.eq_1
abbrev u349:=CB.of g_slices_Reverse_item.code.eq_1
abbrev u350:=OB.of g_lex_letter.o1.eq_1
abbrev u351:=OB.of g_lex_letter.o0.eq_1
abbrev u352:=CB.of g_lex_letter.c0.eq_1
abbrev u353:=CB.of g_lex_letter.code.eq_1
abbrev u354:=OB.of g_lex_one_1.o1.eq_1
abbrev u355:=OB.of g_lex_one_1.o0.eq_1
abbrev u356:=CB.of g_lex_one_1.c0.eq_1
abbrev u357:=CB.of g_lex_one_1.code.eq_1
abbrev u358:=OB.of g_lex_digit.o1.eq_1
abbrev u359:=OB.of g_lex_digit.o0.eq_1
abbrev u360:=CB.of g_lex_digit.c0.eq_1
abbrev u361:=CB.of g_lex_digit.code.eq_1
abbrev u362:=OB.of g_lex_one_2.o3.eq_1
abbrev u363:=OB.of g_lex_one_2.o2.eq_1
abbrev u364:=OB.of g_lex_one_2.o1.eq_1
abbrev u365:=OB.of g_lex_one_2.o0.eq_1
abbrev u366:=CB.of g_lex_one_2.c0.eq_1
abbrev u367:=CB.of g_lex_one_2.code.eq_1
abbrev u368:=CB.of g_lex_figure.c0.eq_1
abbrev u369:=CB.of g_lex_figure.c1.eq_1
abbrev u370:=OB.of g_lex_figure.o5.eq_1
abbrev u371:=OB.of g_lex_figure.o4.eq_1
abbrev u372:=OB.of g_lex_figure.o3.eq_1
abbrev u373:=OB.of g_lex_figure.o2.eq_1
abbrev u374:=OB.of g_lex_figure.o1.eq_1
abbrev u375:=OB.of g_lex_figure.o0.eq_1
abbrev u376:=CB.of g_lex_figure.c2.eq_1
abbrev u377:=CB.of g_lex_figure.c3.eq_1
abbrev u378:=CB.of g_lex_figure.c4.eq_1
abbrev u379:=CB.of g_lex_figure.c5.eq_1
abbrev u380:=CB.of g_lex_figure.code.eq_1
abbrev u381:=CB.of g_lex_sign.c0.eq_1
abbrev u382:=CB.of g_lex_sign.c1.eq_1
abbrev u383:=CB.of g_lex_sign.c2.eq_1
abbrev u384:=CB.of g_lex_sign.code.eq_1
abbrev u385:=CB.of g_slices_Index_string.c0.eq_1
abbrev u386:=CB.of g_slices_Index_string.c1.eq_1
abbrev u387:=CB.of g_slices_Index_string.code.eq_1
theorem g_tree_parser_put_t5_sh:treeB C I g_tree_parser_put.a0 (.one 12 .done) (St.mk s o) K =
 ((([]:List Nat)=[]∧(storeK (s 16) (cellsV (s 13)) 1 o (fun m1 ob2 =>
K (St.mk s (upd o m1 (some ob2))))))):=rfl
@[instance] theorem g_tree_parser_put_t5_u : UnfAt (treeB C I g_tree_parser_put.a0 g_tree_parser_put.t5 (St.mk s o) K) g_tree_parser_put_t5_sh := Unf.of _
theorem g_tree_parser_put_t6_sh:treeB C I g_tree_parser_put.a0 (.one 11 R_t5) (St.mk s o) K =
 ((([]:List Nat)=[]∧(demand (faddrV 1 (s 15)) (fun x1 =>
treeB C I g_tree_parser_put.a0 R_t5 (St.mk (upd s 16 x1) o) K)))):=rfl
@[instance] theorem g_tree_parser_put_t6_u : UnfAt (treeB C I g_tree_parser_put.a0 g_tree_parser_put.t6 (St.mk s o) K) g_tree_parser_put_t6_sh := Unf.of _
theorem g_tree_parser_put_t7_sh:treeB C I g_tree_parser_put.a0 (.one 10 R_t6) (St.mk s o) K =
 ((([]:List Nat)=[]∧(demand (faddrV 3 (s 14)) (fun x1 =>
treeB C I g_tree_parser_put.a0 R_t6 (St.mk (upd s 15 x1) o) K)))):=rfl
@[instance] theorem g_tree_parser_put_t7_u : UnfAt (treeB C I g_tree_parser_put.a0 g_tree_parser_put.t7 (St.mk s o) K) g_tree_parser_put_t7_sh := Unf.of _
theorem g_tree_parser_put_t8_sh:treeB C I g_tree_parser_put.a0 (.one 9 R_t7) (St.mk s o) K =
 ((([]:List Nat)=[]∧(demand (nilcV (s 5)) (fun x1 =>
treeB C I g_tree_parser_put.a0 R_t7 (St.mk (upd s 14 x1) o) K)))):=rfl
@[instance] theorem g_tree_parser_put_t8_u : UnfAt (treeB C I g_tree_parser_put.a0 g_tree_parser_put.t8 (St.mk s o) K) g_tree_parser_put_t8_sh := Unf.of _
theorem g_tree_parser_put_t9_sh:treeB C I g_tree_parser_put.a0 (.one 8 R_t8) (St.mk s o) K =
 ((([]:List Nat)=[]∧(lstK (readD o (s 12)) (fun ys1=>(∀ e∈ys1,e.length=6)∧appK (s 10)
 (ys1.length*64≤140737488355328∧ys1.length≤140737488355328∧¬I 13∧Fresh (St.mk s o) 13 (some 13) ∧
treeB C I g_tree_parser_put.a0 R_t8 (St.mk (upd s 13 (V.own 13)) (upd o 13 (some (Ob.row 6 ys1)))) K)
 (fun m2=>¬I m2∧rowK (o m2) (fun z3 es4=>z3=6∧(es4.length+ys1.length)*64≤140737488355328∧es4.length+ys1.length≤140737488355328 ∧
treeB C I g_tree_parser_put.a0 R_t8 (St.mk (upd (fun t=>scrubV m2 (s t)) 13 (V.own m2)) (upd (fun n=>(o n).map (Ob.scrub m2)) m2 (some (Ob.row 6 (es4++ys1))))) K)))))):=rfl
@[instance] theorem g_tree_parser_put_t9_u : UnfAt (treeB C I g_tree_parser_put.a0 g_tree_parser_put.t9 (St.mk s o) K) g_tree_parser_put_t9_sh := Unf.of _
theorem g_tree_parser_put_t10_sh:treeB C I g_tree_parser_put.a0 (.one 7 R_t9) (St.mk s o) K =
 ((([]:List Nat)=[]∧(lstK (partsN 6 [(s 11)]) (fun es1 =>
treeB C I g_tree_parser_put.a0 R_t9 (St.mk (upd s 12 (V.d (D.sl es1))) o) K)))):=rfl
@[instance] theorem g_tree_parser_put_t10_u : UnfAt (treeB C I g_tree_parser_put.a0 g_tree_parser_put.t10 (St.mk s o) K) g_tree_parser_put_t10_sh := Unf.of _
theorem g_tree_parser_put_t11_sh:treeB C I g_tree_parser_put.a0 (.one 6 R_t10) (St.mk s o) K =
 ((([]:List Nat)=[]∧(demand (loadV o (some 6) (s 3)) (fun x1 =>
treeB C I g_tree_parser_put.a0 R_t10 (St.mk (upd s 11 x1) o) K)))):=rfl
@[instance] theorem g_tree_parser_put_t11_u : UnfAt (treeB C I g_tree_parser_put.a0 g_tree_parser_put.t11 (St.mk s o) K) g_tree_parser_put_t11_sh := Unf.of _
theorem g_tree_parser_put_t12_sh:treeB C I g_tree_parser_put.a0 (.one 5 R_t9) (St.mk s o) K =
 ((([]:List Nat)=[]∧(demand (loadV o none (s 9)) (fun x1 =>
treeB C I g_tree_parser_put.a0 R_t9 (St.mk (upd s 10 x1) o) K)))):=rfl
@[instance] theorem g_tree_parser_put_t12_u : UnfAt (treeB C I g_tree_parser_put.a0 g_tree_parser_put.t12 (St.mk s o) K) g_tree_parser_put_t12_sh := Unf.of _
theorem g_tree_parser_put_t13_sh:treeB C I g_tree_parser_put.a0 (.one 7 R_t12) (St.mk s o) K =
 ((([]:List Nat)=[]∧(lstK (partsN 6 [(s 11)]) (fun es1 =>
treeB C I g_tree_parser_put.a0 R_t12 (St.mk (upd s 12 (V.d (D.sl es1))) o) K)))):=rfl
@[instance] theorem g_tree_parser_put_t13_u : UnfAt (treeB C I g_tree_parser_put.a0 g_tree_parser_put.t13 (St.mk s o) K) g_tree_parser_put_t13_sh := Unf.of _
theorem g_tree_parser_put_t14_sh:treeB C I g_tree_parser_put.a0 (.two 5 R_t10 R_t13) (St.mk s o) K =
 ((([]:List Nat)=[]∧(demand (loadV o none (s 9)) (fun x1 =>
treeB C I g_tree_parser_put.a0 R_t10 (St.mk (upd s 10 x1) o) K)))∧treeB C I g_tree_parser_put.a0 R_t13 (St.mk s o) K):=rfl
@[instance] theorem g_tree_parser_put_t14_u : UnfAt (treeB C I g_tree_parser_put.a0 g_tree_parser_put.t14 (St.mk s o) K) g_tree_parser_put_t14_sh := Unf.of _
theorem g_tree_parser_put_t15_sh:treeB C I g_tree_parser_put.a0 (.one 6 R_t14) (St.mk s o) K =
 ((([]:List Nat)=[]∧(demand (loadV o (some 6) (s 3)) (fun x1 =>
treeB C I g_tree_parser_put.a0 R_t14 (St.mk (upd s 11 x1) o) K)))):=rfl
@[instance] theorem g_tree_parser_put_t15_u : UnfAt (treeB C I g_tree_parser_put.a0 g_tree_parser_put.t15 (St.mk s o) K) g_tree_parser_put_t15_sh := Unf.of _
theorem g_tree_parser_put_t16_sh:treeB C I g_tree_parser_put.a0 (.two 5 R_t11 R_t15) (St.mk s o) K =
 ((([]:List Nat)=[]∧(demand (loadV o none (s 9)) (fun x1 =>
treeB C I g_tree_parser_put.a0 R_t11 (St.mk (upd s 10 x1) o) K)))∧treeB C I g_tree_parser_put.a0 R_t15 (St.mk s o) K):=rfl
@[instance] theorem g_tree_parser_put_t16_u : UnfAt (treeB C I g_tree_parser_put.a0 g_tree_parser_put.t16 (St.mk s o) K) g_tree_parser_put_t16_sh := Unf.of _
theorem g_tree_parser_put_i4_sh:drawB C I g_tree_parser_put.a0 (4::[]) R_t16 (St.mk s o) K =
 ((s 9)=V.undef∧(demand (faddrV 1 (s 8)) (fun x1=>quietV o (x1::[(s 8)]) ∧
treeB C I g_tree_parser_put.a0 R_t16 (St.mk (upd s 9 x1) o) K))):=rfl
@[instance] theorem g_tree_parser_put_i4_u : UnfAt (drawB C I g_tree_parser_put.a0 g_tree_parser_put.i4 g_tree_parser_put.t16 (St.mk s o) K) g_tree_parser_put_i4_sh := Unf.of _
theorem g_tree_parser_put_i3_sh:drawB C I g_tree_parser_put.a0 (3::R_i4) R_t16 (St.mk s o) K =
 ((s 8)=V.undef∧(demand (faddrV 3 (s 7)) (fun x1=>quietV o (x1::[(s 7)]) ∧
drawB C I g_tree_parser_put.a0 R_i4 R_t16 (St.mk (upd s 8 x1) o) K))):=rfl
@[instance] theorem g_tree_parser_put_i3_u : UnfAt (drawB C I g_tree_parser_put.a0 g_tree_parser_put.i3 g_tree_parser_put.t16 (St.mk s o) K) g_tree_parser_put_i3_sh := Unf.of _
theorem g_tree_parser_put_i2_sh:drawB C I g_tree_parser_put.a0 (2::R_i3) R_t16 (St.mk s o) K =
 ((s 7)=V.undef∧(demand (nilcV (s 6)) (fun x1=>quietV o (x1::[(s 6)]) ∧
drawB C I g_tree_parser_put.a0 R_i3 R_t16 (St.mk (upd s 7 x1) o) K))):=rfl
@[instance] theorem g_tree_parser_put_i2_u : UnfAt (drawB C I g_tree_parser_put.a0 g_tree_parser_put.i2 g_tree_parser_put.t16 (St.mk s o) K) g_tree_parser_put_i2_sh := Unf.of _
theorem g_tree_parser_put_i1_sh:drawB C I g_tree_parser_put.a0 (1::R_i2) R_t16 (St.mk s o) K =
 ((s 6)=V.undef∧(quietV o ((s 0)::[(s 0)]) ∧
drawB C I g_tree_parser_put.a0 R_i2 R_t16 (St.mk (upd s 6 (s 0)) o) K)):=rfl
@[instance] theorem g_tree_parser_put_i1_u : UnfAt (drawB C I g_tree_parser_put.a0 g_tree_parser_put.i1 g_tree_parser_put.t16 (St.mk s o) K) g_tree_parser_put_i1_sh := Unf.of _
abbrev u388:=CB.of g_tree_parser_put.c0.eq_1
theorem g_tree_parser_put_code_sh:wpB C I (g_tree_parser_put.codeF R_i1 R_t16 R_c0) (St.mk s o) Q =
 (lstK (cellsV (s 1)) (fun c1=>c1.length=6∧¬I 3∧Fresh (St.mk s o) 3 (some 3)∧V.refsL 3 c1=false ∧
V.undef=V.undef∧(quietV (upd o 3 (some (Ob.box c1))) ((s 0)::[(s 0)]) ∧
drawB C I g_tree_parser_put.a0 R_i1 R_t16 (St.mk (upd (look [(0,s 0),(3,(V.ptr 3 0))]) 5 (s 0)) (upd o 3 (some (Ob.box c1)))) (fun st=>(seqK (fun st=>wpB C I R_c0 st Q) Q) .normal (St.trim st [0] none))))):=rfl
@[instance] theorem g_tree_parser_put_code_u : UnfAt (wpB C I g_tree_parser_put.code (St.mk s o) Q) g_tree_parser_put_code_sh := Unf.of _
abbrev u389:=CB.of g_tree_parser_sum.c0.eq_1
abbrev u390:=CB.of g_tree_parser_sum.c1.eq_1
abbrev u391:=CB.of g_tree_parser_sum.c2.eq_1
abbrev u392:=CB.of g_tree_parser_sum.c3.eq_1
abbrev u393:=CB.of g_tree_parser_sum.code.eq_1
abbrev u394:=OB.of g_ref01_Parse.o1.eq_1
abbrev u395:=OB.of g_ref01_Parse.o0.eq_1
abbrev u396:=CB.of g_ref01_Parse.c0.eq_1
abbrev u397:=OB.of g_ref01_Parse.o3.eq_1
abbrev u398:=OB.of g_ref01_Parse.o2.eq_1
abbrev u399:=CB.of g_ref01_Parse.c1.eq_1
abbrev u400:=CB.of g_ref01_Parse.c2.eq_1
abbrev u401:=CB.of g_ref01_Parse.c3.eq_1
abbrev u402:=CB.of g_ref01_Parse.c4.eq_1
abbrev u403:=CB.of g_ref01_Parse.c5.eq_1
abbrev u404:=CB.of g_ref01_Parse.c6.eq_1
abbrev u405:=CB.of g_ref01_Parse.c7.eq_1
abbrev u406:=CB.of g_ref01_Parse.c8.eq_1
abbrev u407:=OB.of g_ref01_Parse.o5.eq_1
abbrev u408:=OB.of g_ref01_Parse.o4.eq_1
abbrev u409:=CB.of g_ref01_Parse.c9.eq_1
abbrev u410:=CB.of g_ref01_Parse.c10.eq_1
abbrev u411:=CB.of g_ref01_Parse.c11.eq_1
abbrev u412:=CB.of g_ref01_Parse.c12.eq_1
abbrev u413:=CB.of g_ref01_Parse.code.eq_1
abbrev u414:=OB.of g_ref03_Parse.o1.eq_1
abbrev u415:=OB.of g_ref03_Parse.o0.eq_1
abbrev u416:=CB.of g_ref03_Parse.c0.eq_1
abbrev u417:=CB.of g_ref03_Parse.c1.eq_1
abbrev u418:=CB.of g_ref03_Parse.c2.eq_1
abbrev u419:=CB.of g_ref03_Parse.code.eq_1
abbrev u420:=CB.of g_ref07_whole.c0.eq_1
abbrev u421:=CB.of g_ref07_whole.c1.eq_1
abbrev u422:=OB.of g_ref07_whole.o5.eq_1
abbrev u423:=OB.of g_ref07_whole.o4.eq_1
abbrev u424:=OB.of g_ref07_whole.o3.eq_1
abbrev u425:=OB.of g_ref07_whole.o2.eq_1
abbrev u426:=OB.of g_ref07_whole.o1.eq_1
abbrev u427:=OB.of g_ref07_whole.o0.eq_1
abbrev u428:=CB.of g_ref07_whole.c2.eq_1
abbrev u429:=CB.of g_ref07_whole.c3.eq_1
abbrev u430:=CB.of g_ref07_whole.code.eq_1
abbrev u431:=CB.of g_ref08_factor.c0.eq_1
abbrev u432:=CB.of g_ref08_factor.c1.eq_1
abbrev u433:=CB.of g_ref08_factor.c2.eq_1
abbrev u434:=CB.of g_ref08_factor.c3.eq_1
abbrev u435:=OB.of g_ref08_factor.o1.eq_1
abbrev u436:=OB.of g_ref08_factor.o0.eq_1
abbrev u437:=CB.of g_ref08_factor.c4.eq_1
abbrev u438:=CB.of g_ref08_factor.c5.eq_1
abbrev u439:=CB.of g_ref08_factor.c6.eq_1
abbrev u440:=CB.of g_ref08_factor.c7.eq_1
abbrev u441:=CB.of g_ref08_factor.c8.eq_1
abbrev u442:=CB.of g_ref08_factor.c9.eq_1
abbrev u443:=CB.of g_ref08_factor.c10.eq_1
abbrev u444:=CB.of g_ref08_factor.c11.eq_1
abbrev u445:=CB.of g_ref08_factor.c12.eq_1
abbrev u446:=CB.of g_ref08_factor.c13.eq_1
abbrev u447:=CB.of g_ref08_factor.c14.eq_1
abbrev u448:=CB.of g_ref08_factor.c15.eq_1
abbrev u449:=CB.of g_ref08_factor.c16.eq_1
abbrev u450:=CB.of g_ref08_factor.c17.eq_1
abbrev u451:=CB.of g_ref08_factor.c18.eq_1
abbrev u452:=CB.of g_ref08_factor.c19.eq_1
abbrev u453:=CB.of g_ref08_factor.c20.eq_1
abbrev u454:=CB.of g_ref08_factor.c21.eq_1
abbrev u455:=CB.of g_ref08_factor.c22.eq_1
abbrev u456:=CB.of g_ref08_factor.code.eq_1
abbrev u457:=CB.of g_ref08_level.c0.eq_1
abbrev u458:=CB.of g_ref08_level.c1.eq_1
abbrev u459:=CB.of g_ref08_level.code.eq_1
abbrev u460:=CB.of g_show_leaf.c0.eq_1
abbrev u461:=CB.of g_show_leaf.code.eq_1
abbrev u462:=OB.of g_money_Parse.o1.eq_1
abbrev u463:=OB.of g_money_Parse.o0.eq_1
abbrev u464:=CB.of g_money_Parse.c0.eq_1
abbrev u465:=CB.of g_money_Parse.c1.eq_1
abbrev u466:=CB.of g_money_Parse.c2.eq_1
abbrev u467:=CB.of g_money_Parse.c3.eq_1
abbrev u468:=CB.of g_money_Parse.c4.eq_1
abbrev u469:=CB.of g_money_Parse.code.eq_1
abbrev u470:=OB.of g_rate_Parse.o3.eq_1
abbrev u471:=OB.of g_rate_Parse.o2.eq_1
abbrev u472:=OB.of g_rate_Parse.o1.eq_1
abbrev u473:=OB.of g_rate_Parse.o0.eq_1
abbrev u474:=CB.of g_rate_Parse.c0.eq_1
abbrev u475:=CB.of g_rate_Parse.c1.eq_1
abbrev u476:=CB.of g_rate_Parse.c2.eq_1
abbrev u477:=CB.of g_rate_Parse.c3.eq_1
abbrev u478:=CB.of g_rate_Parse.code.eq_1
abbrev u479:=CB.of g_strings_HasPrefix.code.eq_1
abbrev u480:=CB.of g_tree_parser_product.c0.eq_1
abbrev u481:=CB.of g_tree_parser_product.c1.eq_1
abbrev u482:=CB.of g_tree_parser_product.c2.eq_1
abbrev u483:=CB.of g_tree_parser_product.c3.eq_1
abbrev u484:=CB.of g_tree_parser_product.code.eq_1
abbrev u485:=CB.of g_ref03_Text.code.eq_1
theorem g_money_Text_c0_sh:wpB C I (g_money_Text.c0) (St.mk s o) Q =
 ((s 17)=V.undef∧(quietV o ((s 4)::[(s 4)]) ∧
(s 18)=V.undef∧(quietV o ((s 0)::[(s 0)]) ∧
(s 19)=V.undef∧(demand (binV BinOp.quo (s 0) (V.d (.int .i64 100))) (fun x3=>quietV o (x3::[(s 0),(V.d (.int .i64 100))]) ∧
(s 20)=V.undef∧(∃ x4,SoundAt C 68 ⟨[x3],fun _=>none⟩ ⟨x4,fun _=>none⟩∧(∀ n,V.refs n x4=false)∧quietV o (x4::[x3]) ∧
(s 21)=V.undef∧(demand (binV BinOp.add (s 4) x4) (fun x5=>quietV o (x5::[(s 4),x4]) ∧
(s 22)=V.undef∧(demand (binV BinOp.add x5 (V.d (.str [46]))) (fun x6=>quietV o (x6::[x5,(V.d (.str [46]))]) ∧
(s 23)=V.undef∧(quietV o ((s 5)::[(s 5)]) ∧
(s 24)=V.undef∧(demand (slcSV (s 5) (some (V.d (.int .i64 1))) none) (fun x8=>quietV o (x8::[(s 5),(V.d (.int .i64 1))]) ∧
(s 25)=V.undef∧(demand (binV BinOp.add x6 x8) (fun x9=>quietV o (x9::[x6,x8]) ∧
(s 2)=V.undef∧(quietV o (x9::[x9]) ∧
(s 3)=V.undef∧(quietV o ((V.d (.int .i64 0))::[(V.d (.int .i64 0))]) ∧
Q .ret (St.mk (look [(2,x9),(3,(V.d (.int .i64 0)))]) (looko ([].map fun n=>(n,o n))))))))))))))))))))):=rfl
@[instance] theorem g_money_Text_c0_u : UnfAt (wpB C I g_money_Text.c0 (St.mk s o) Q) g_money_Text_c0_sh := Unf.of _
abbrev u486:=CB.of g_money_Text.c1.eq_1
abbrev u487:=CB.of g_money_Text.c2.eq_1
abbrev u488:=CB.of g_money_Text.code.eq_1
abbrev u489:=CB.of g_rate_Text.c0.eq_1
abbrev u490:=CB.of g_rate_Text.c1.eq_1
abbrev u491:=CB.of g_rate_Text.code.eq_1
abbrev u492:=CB.of g_money_Right.code.eq_1
abbrev u493:=CB.of g_strings_CutSuffix.code.eq_1
abbrev u494:=OB.of g_rate_Right.o1.eq_1
abbrev u495:=OB.of g_rate_Right.o0.eq_1
abbrev u496:=CB.of g_rate_Right.c0.eq_1
abbrev u497:=CB.of g_rate_Right.code.eq_1
abbrev u498:=OB.of g_internal_stringslite_HasPrefix.o1.eq_1
abbrev u499:=OB.of g_internal_stringslite_HasPrefix.o0.eq_1
abbrev u500:=CB.of g_internal_stringslite_HasPrefix.c0.eq_1
abbrev u501:=CB.of g_internal_stringslite_HasPrefix.code.eq_1
abbrev u502:=CB.of g_tree_parser_factor.c0.eq_1
abbrev u503:=CB.of g_tree_parser_factor.c1.eq_1
abbrev u504:=CB.of g_tree_parser_factor.c2.eq_1
abbrev u505:=CB.of g_tree_parser_factor.c3.eq_1
abbrev u506:=CB.of g_tree_parser_factor.c4.eq_1
abbrev u507:=CB.of g_tree_parser_factor.c5.eq_1
abbrev u508:=CB.of g_tree_parser_factor.c6.eq_1
abbrev u509:=CB.of g_tree_parser_factor.c7.eq_1
abbrev u510:=CB.of g_tree_parser_factor.c8.eq_1
abbrev u511:=CB.of g_tree_parser_factor.code.eq_1
abbrev u512:=CB.of g_internal_stringslite_CutSuffix.c0.eq_1
abbrev u513:=CB.of g_internal_stringslite_CutSuffix.code.eq_1
abbrev u514:=CB.of g_tree_parser_pair.c0.eq_1
abbrev u515:=CB.of g_tree_parser_pair.c1.eq_1
abbrev u516:=CB.of g_tree_parser_pair.code.eq_1
abbrev u517:=CB.of g_tree_parser_leaf.c0.eq_1
abbrev u518:=CB.of g_tree_parser_leaf.c1.eq_1
abbrev u519:=CB.of g_tree_parser_leaf.c2.eq_1
abbrev u520:=OB.of g_tree_parser_leaf.o3.eq_1
abbrev u521:=OB.of g_tree_parser_leaf.o2.eq_1
abbrev u522:=OB.of g_tree_parser_leaf.o1.eq_1
abbrev u523:=OB.of g_tree_parser_leaf.o0.eq_1
abbrev u524:=CB.of g_tree_parser_leaf.c3.eq_1
abbrev u525:=CB.of g_tree_parser_leaf.c4.eq_1
abbrev u526:=CB.of g_tree_parser_leaf.c5.eq_1
abbrev u527:=CB.of g_tree_parser_leaf.c6.eq_1
abbrev u528:=CB.of g_tree_parser_leaf.c7.eq_1
abbrev u529:=CB.of g_tree_parser_leaf.code.eq_1
abbrev u530:=OB.of g_internal_stringslite_HasSuffix.o1.eq_1
abbrev u531:=OB.of g_internal_stringslite_HasSuffix.o0.eq_1
abbrev u532:=CB.of g_internal_stringslite_HasSuffix.c0.eq_1
abbrev u533:=CB.of g_internal_stringslite_HasSuffix.code.eq_1
attribute [instance] u1 u2 u3 u4 u5 u6 u7 u8 u9 u10 u11 u12 u13 u14 u15 u16 u17 u18 u19 u20 u21 u22 u23 u24 u25 u26 u27 u28 u29 u30 u31 u32 u33 u34 u35 u36 u37 u38 u39 u40 u41 u42 u43 u44 u45 u46 u47 u48 u49 u50 u51 u52 u53 u54 u55 u56 u57 u58 u59 u60 u61 u62 u63 u64 u65 u66 u67 u68 u69 u70 u71 u72 u73 u74 u75 u76 u77 u78 u79 u80 u81 u82 u83 u84 u85 u86 u87 u88 u89 u90 u91 u92 u93 u94 u95 u96 u97 u98 u99 u100 u101 u102 u103 u104 u105 u106 u107 u108 u109 u110 u111 u112 u113 u114 u115 u116 u117 u118 u119 u120 u121 u122 u123 u124 u125 u126 u127 u128 u129 u130 u131 u132 u133 u134 u135 u136 u137 u138 u139 u140 u141 u142 u143 u144 u145 u146 u147 u148 u149 u150 u151 u152 u153 u154 u155 u156 u157 u158 u159 u160 u161 u162 u163 u164 u165 u166 u167 u168 u169 u170 u171 u172 u173 u174 u175 u176 u177 u178 u179 u180 u181 u182 u183 u184 u185 u186 u187 u188 u189 u190 u191 u192 u193 u194 u195 u196 u197 u198 u199 u200 u201 u202 u203 u204 u205 u206 u207 u208 u209 u210 u211 u212 u213 u214 u215 u216 u217 u218 u219 u220 u221 u222 u223 u224 u225 u226 u227 u228 u229 u230 u231 u232 u233 u234 u235 u236 u237 u238 u239 u240 u241 u242 u243 u244 u245 u246 u247 u248 u249 u250 u251 u252 u253 u254 u255 u256 u257 u258 u259 u260 u261 u262 u263 u264 u265 u266 u267 u268 u269 u270 u271 u272 u273 u274 u275 u276 u277 u278 u279 u280 u281 u282 u283 u284 u285 u286 u287 u288 u289 u290 u291 u292 u293 u294 u295 u296 u297 u298 u299 u300 u301 u302 u303 u304 u305 u306 u307 u308 u309 u310 u311 u312 u313 u314 u315 u316 u317 u318 u319 u320 u321 u322 u323 u324 u325 u326 u327 u328 u329 u330 u331 u332 u333 u334 u335 u336 u337 u338 u339 u340 u341 u342 u343 u344 u345 u346 u347 u348 u349 u350 u351 u352 u353 u354 u355 u356 u357 u358 u359 u360 u361 u362 u363 u364 u365 u366 u367 u368 u369 u370 u371 u372 u373 u374 u375 u376 u377 u378 u379 u380 u381 u382 u383 u384 u385 u386 u387 u388 u389 u390 u391 u392 u393 u394 u395 u396 u397 u398 u399 u400 u401 u402 u403 u404 u405 u406 u407 u408 u409 u410 u411 u412 u413 u414 u415 u416 u417 u418 u419 u420 u421 u422 u423 u424 u425 u426 u427 u428 u429 u430 u431 u432 u433 u434 u435 u436 u437 u438 u439 u440 u441 u442 u443 u444 u445 u446 u447 u448 u449 u450 u451 u452 u453 u454 u455 u456 u457 u458 u459 u460 u461 u462 u463 u464 u465 u466 u467 u468 u469 u470 u471 u472 u473 u474 u475 u476 u477 u478 u479 u480 u481 u482 u483 u484 u485 u486 u487 u488 u489 u490 u491 u492 u493 u494 u495 u496 u497 u498 u499 u500 u501 u502 u503 u504 u505 u506 u507 u508 u509 u510 u511 u512 u513 u514 u515 u516 u517 u518 u519 u520 u521 u522 u523 u524 u525 u526 u527 u528 u529 u530 u531 u532 u533
end Pay
