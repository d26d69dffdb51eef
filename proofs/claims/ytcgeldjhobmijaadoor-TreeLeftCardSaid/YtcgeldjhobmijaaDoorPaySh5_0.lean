/- What the code of the functions comes to, without slots: an equation for each part; no condition. -/
import Derived.Test.YtcgeldjhobmijaaDoorPayBb0
import Derived.Test.YtcgeldjhobmijaaDoorPayCode5_0
set_option maxRecDepth 20000
set_option maxHeartbeats 400000
set_option linter.unusedVariables false
namespace Pay
open Go
variable {R_c0 R_c1 R_c2 R_c3 R_c4 R_c5 R_c6 R_c7 R_c8 R_c9 R_c10 R_c11 R_c12 R_c13 R_c14 R_c15 R_c16 R_c17 R_c18 R_c19 R_l0 R_l1 : ACode} {R_o0 R_o1 R_o2 R_o3 R_o4 R_o5 R_o6 R_o7 R_o8 R_o9 R_o10 R_o11 : List AOper} {C : Ctx} {I : Nat → Prop} {s : Nat → V} {o : Nat → Option Ob} {K : St → Prop} {Q : Ex → St → Prop}
theorem g_law08_TreeLeft_o1_sh : opsB C I [⟨some 21, .pick (.t 17) (.c (.d (.bool true))) (.t 20), [], [], none, none⟩] (St.mk s o) K =
 (demand (pickV (s 17) (V.d (.bool true)) (s 20)) (fun x1 =>
K (St.mk (upd s 21 x1) o))) := rfl
@[instance] theorem g_law08_TreeLeft_o1_u : UnfAt (opsB C I g_law08_TreeLeft.o1 (St.mk s o) K) g_law08_TreeLeft_o1_sh := Unf.of _
theorem g_law08_TreeLeft_o0_sh : opsB C I (⟨some 18, .mv (.t 0), [], [], (some (3, 17, false)), none⟩ ::
     ⟨some 19, .len (.t 18), [], [], (some (3, 17, false)), none⟩ ::
     ⟨some 20, .bin .gtr (.t 19) (.c (.d (.int .i64 60))), [], [], (some (3, 17, false)), (some ([0, 17, 20], (some [])))⟩ ::
     R_o1) (St.mk s o) K =
 (guardK (s 17) false
 (demand (lenV o (s 0)) (fun x1 =>
demand (binV BinOp.gtr x1 (V.d (.int .i64 60))) (fun x2 =>
opsB C I R_o1 (St.mk (look [(0, (s 0)), (17, (V.d (D.bool false))), (20, x2)]) (looko ([].map fun n => (n, o n)))) K)))
 (opsB C I R_o1 (St.mk (look [(0, (s 0)), (17, (V.d (D.bool true))), (20, (V.tup []))]) (looko ([].map fun n => (n, o n)))) K)
 (opsB C I R_o1 (St.mk (look [(0, (s 0)), (17, (V.tup [])), (20, (V.tup []))]) (looko ([].map fun n => (n, o n)))) K)) := rfl
@[instance] theorem g_law08_TreeLeft_o0_u : UnfAt (opsB C I g_law08_TreeLeft.o0 (St.mk s o) K) g_law08_TreeLeft_o0_sh := Unf.of _
theorem g_law08_TreeLeft_c0_sh : wpB C I (.cond (.t 21) (.seq (.region [2] (some []) none
     [⟨some 22, .call 143 [], [], [], none, none⟩,
      ⟨some 2, .mv (.t 22), [], [], none, none⟩])
  (.ret))
 (.skip)) (St.mk s o) Q =
 (condK (s 21)
 (callK C I (St.mk s o) (some 22) 143 [] (fun r1 or1 =>
Q .ret (St.mk (look [(2, r1)]) (looko ([].map fun n => (n, or1 n))))))
 (Q .normal (St.mk s o))) := rfl
@[instance] theorem g_law08_TreeLeft_c0_u : UnfAt (wpB C I g_law08_TreeLeft.c0 (St.mk s o) Q) g_law08_TreeLeft_c0_sh := Unf.of _
theorem g_law08_TreeLeft_c1_sh : wpB C I (.region [0, 3, 23, 24, 25] (some []) none
   [⟨some 58, .mv (.t 3), [], [], none, none⟩,
    ⟨some 59, .mv (.t 6), [], [], none, none⟩,
    ⟨some 60, .bin .rem (.t 59) (.c (.d (.int .i64 10))), [], [], none, none⟩,
    ⟨some 61, .bin .add (.c (.d (.int .i64 48))) (.t 60), [], [], none, none⟩,
    ⟨some 62, .conv .u8 (.t 61), [], [], none, none⟩,
    ⟨some 63, .bsl none 1 [] 1 [(0, (.t 62))], [], [], none, none⟩,
    ⟨some 64, .bstr (.t 63), [], [], none, none⟩,
    ⟨some 65, .bin .add (.t 58) (.t 64), [], [], none, none⟩,
    ⟨some 3, .mv (.t 65), [], [], none, none⟩]) (St.mk s o) Q =
 (demand (binV BinOp.rem (s 6) (V.d (.int .i64 10))) (fun x1 =>
demand (binV BinOp.add (V.d (.int .i64 48)) x1) (fun x2 =>
demand (convV IntKind.u8 x2) (fun x3 =>
lstK (partsN 1 [x3]) (fun es4 =>
demand (bstrV (V.d (D.sl es4))) (fun x5 =>
demand (binV BinOp.add (s 3) x5) (fun x6 =>
Q .normal (St.mk (look [(0, (s 0)), (3, x6), (23, (s 23)), (24, (s 24)), (25, (s 25))]) (looko ([].map fun n => (n, o n))))))))))) := rfl
@[instance] theorem g_law08_TreeLeft_c1_u : UnfAt (wpB C I g_law08_TreeLeft.c1 (St.mk s o) Q) g_law08_TreeLeft_c1_sh := Unf.of _
theorem g_law08_TreeLeft_c2_sh : wpB C I (.seq (.seq (.region [0, 3, 6, 23, 24, 25, 48] (some []) none
     [⟨some 47, .mv (.t 6), [], [], none, none⟩,
      ⟨some 48, .bin .gtr (.t 47) (.c (.d (.int .i64 9))), [], [], none, none⟩])
  (.cond (.t 48) (.region [0, 3, 6, 23, 24, 25] (some []) none
      [⟨some 49, .mv (.t 3), [], [], none, none⟩,
       ⟨some 50, .mv (.t 6), [], [], none, none⟩,
       ⟨some 51, .bin .quo (.t 50) (.c (.d (.int .i64 10))), [], [], none, none⟩,
       ⟨some 52, .bin .rem (.t 51) (.c (.d (.int .i64 10))), [], [], none, none⟩,
       ⟨some 53, .bin .add (.c (.d (.int .i64 48))) (.t 52), [], [], none, none⟩,
       ⟨some 54, .conv .u8 (.t 53), [], [], none, none⟩,
       ⟨some 55, .bsl none 1 [] 1 [(0, (.t 54))], [], [], none, none⟩,
       ⟨some 56, .bstr (.t 55), [], [], none, none⟩,
       ⟨some 57, .bin .add (.t 49) (.t 56), [], [], none, none⟩,
       ⟨some 3, .mv (.t 57), [], [], none, none⟩])
   (.skip)))
 (R_c1)) (St.mk s o) Q =
 (demand (binV BinOp.gtr (s 6) (V.d (.int .i64 9))) (fun x1 =>
condK x1
 (demand (binV BinOp.quo (s 6) (V.d (.int .i64 10))) (fun x2 =>
demand (binV BinOp.rem x2 (V.d (.int .i64 10))) (fun x3 =>
demand (binV BinOp.add (V.d (.int .i64 48)) x3) (fun x4 =>
demand (convV IntKind.u8 x4) (fun x5 =>
lstK (partsN 1 [x5]) (fun es6 =>
demand (bstrV (V.d (D.sl es6))) (fun x7 =>
demand (binV BinOp.add (s 3) x7) (fun x8 =>
wpB C I R_c1 (St.mk (look [(0, (s 0)), (3, x8), (6, (s 6)), (23, (s 23)), (24, (s 24)), (25, (s 25))]) (looko ([].map fun n => (n, o n)))) Q))))))))
 (wpB C I R_c1 (St.mk (look [(0, (s 0)), (3, (s 3)), (6, (s 6)), (23, (s 23)), (24, (s 24)), (25, (s 25)), (48, x1)]) (looko ([].map fun n => (n, o n)))) Q))) := rfl
@[instance] theorem g_law08_TreeLeft_c2_u : UnfAt (wpB C I g_law08_TreeLeft.c2 (St.mk s o) Q) g_law08_TreeLeft_c2_sh := Unf.of _
theorem g_law08_TreeLeft_c3_sh : wpB C I (.seq (.seq (.region [0, 3, 6, 23, 24, 25, 38] (some []) none
     [⟨some 37, .mv (.t 6), [], [], none, none⟩,
      ⟨some 38, .bin .gtr (.t 37) (.c (.d (.int .i64 99))), [], [], none, none⟩])
  (.cond (.t 38) (.region [0, 3, 6, 23, 24, 25] (some []) none
      [⟨some 39, .mv (.t 3), [], [], none, none⟩,
       ⟨some 40, .mv (.t 6), [], [], none, none⟩,
       ⟨some 41, .bin .quo (.t 40) (.c (.d (.int .i64 100))), [], [], none, none⟩,
       ⟨some 42, .bin .add (.c (.d (.int .i64 48))) (.t 41), [], [], none, none⟩,
       ⟨some 43, .conv .u8 (.t 42), [], [], none, none⟩,
       ⟨some 44, .bsl none 1 [] 1 [(0, (.t 43))], [], [], none, none⟩,
       ⟨some 45, .bstr (.t 44), [], [], none, none⟩,
       ⟨some 46, .bin .add (.t 39) (.t 45), [], [], none, none⟩,
       ⟨some 3, .mv (.t 46), [], [], none, none⟩])
   (.skip)))
 (R_c2)) (St.mk s o) Q =
 (demand (binV BinOp.gtr (s 6) (V.d (.int .i64 99))) (fun x1 =>
condK x1
 (demand (binV BinOp.quo (s 6) (V.d (.int .i64 100))) (fun x2 =>
demand (binV BinOp.add (V.d (.int .i64 48)) x2) (fun x3 =>
demand (convV IntKind.u8 x3) (fun x4 =>
lstK (partsN 1 [x4]) (fun es5 =>
demand (bstrV (V.d (D.sl es5))) (fun x6 =>
demand (binV BinOp.add (s 3) x6) (fun x7 =>
wpB C I R_c2 (St.mk (look [(0, (s 0)), (3, x7), (6, (s 6)), (23, (s 23)), (24, (s 24)), (25, (s 25))]) (looko ([].map fun n => (n, o n)))) Q)))))))
 (wpB C I R_c2 (St.mk (look [(0, (s 0)), (3, (s 3)), (6, (s 6)), (23, (s 23)), (24, (s 24)), (25, (s 25)), (38, x1)]) (looko ([].map fun n => (n, o n)))) Q))) := rfl
@[instance] theorem g_law08_TreeLeft_c3_u : UnfAt (wpB C I g_law08_TreeLeft.c3 (St.mk s o) Q) g_law08_TreeLeft_c3_sh := Unf.of _
theorem g_law08_TreeLeft_c4_sh : wpB C I (.seq (.region [0, 3, 6, 23, 24, 25] (some []) none
    [⟨some 34, .mv (.t 5), [], [], none, none⟩,
     ⟨some 35, .bin .rem (.t 34) (.c (.d (.int .u16 1000))), [], [], none, none⟩,
     ⟨some 36, .conv .i64 (.t 35), [], [], none, none⟩,
     ⟨some 6, .mv (.t 36), [], [], none, none⟩])
 (R_c3)) (St.mk s o) Q =
 (demand (binV BinOp.rem (s 5) (V.d (.int .u16 1000))) (fun x1 =>
demand (convV IntKind.i64 x1) (fun x2 =>
wpB C I R_c3 (St.mk (look [(0, (s 0)), (3, (s 3)), (6, x2), (23, (s 23)), (24, (s 24)), (25, (s 25))]) (looko ([].map fun n => (n, o n)))) Q))) := rfl
@[instance] theorem g_law08_TreeLeft_c4_u : UnfAt (wpB C I g_law08_TreeLeft.c4 (St.mk s o) Q) g_law08_TreeLeft_c4_sh := Unf.of _
theorem g_law08_TreeLeft_c5_sh : wpB C I (.seq (.seq (.region [0, 3, 5, 23, 24, 25, 31] (some []) none
     [⟨some 30, .mv (.t 4), [], [], none, none⟩,
      ⟨some 31, .bin .gtr (.t 30) (.c (.d (.int .i64 0))), [], [], none, none⟩])
  (.cond (.t 31) (.region [0, 3, 5, 23, 24, 25] (some []) none
      [⟨some 32, .mv (.t 3), [], [], none, none⟩,
       ⟨some 33, .bin .add (.t 32) (.c (.d (.str [32, 43, 32]))), [], [], none, none⟩,
       ⟨some 3, .mv (.t 33), [], [], none, none⟩])
   (.skip)))
 (R_c4)) (St.mk s o) Q =
 (demand (binV BinOp.gtr (s 4) (V.d (.int .i64 0))) (fun x1 =>
condK x1
 (demand (binV BinOp.add (s 3) (V.d (.str [32, 43, 32]))) (fun x2 =>
wpB C I R_c4 (St.mk (look [(0, (s 0)), (3, x2), (5, (s 5)), (23, (s 23)), (24, (s 24)), (25, (s 25))]) (looko ([].map fun n => (n, o n)))) Q))
 (wpB C I R_c4 (St.mk (look [(0, (s 0)), (3, (s 3)), (5, (s 5)), (23, (s 23)), (24, (s 24)), (25, (s 25)), (31, x1)]) (looko ([].map fun n => (n, o n)))) Q))) := rfl
@[instance] theorem g_law08_TreeLeft_c5_u : UnfAt (wpB C I g_law08_TreeLeft.c5 (St.mk s o) Q) g_law08_TreeLeft_c5_sh := Unf.of _
theorem g_law08_TreeLeft_c6_sh : wpB C I (.region [0, 3, 23, 24, 25] (some []) none
   [⟨some 66, .bin .add (.t 25) (.c (.d (.int .i64 1))), [], [], none, none⟩,
    ⟨some 25, .mv (.t 66), [], [], none, none⟩]) (St.mk s o) Q =
 (demand (binV BinOp.add (s 25) (V.d (.int .i64 1))) (fun x1 =>
Q .normal (St.mk (look [(0, (s 0)), (3, (s 3)), (23, (s 23)), (24, (s 24)), (25, x1)]) (looko ([].map fun n => (n, o n)))))) := rfl
@[instance] theorem g_law08_TreeLeft_c6_u : UnfAt (wpB C I g_law08_TreeLeft.c6 (St.mk s o) Q) g_law08_TreeLeft_c6_sh := Unf.of _
theorem g_law08_TreeLeft_l0_sh (hL : R_l0 = .loop [0, 3, 23, 24, 25] (some []) (.seq (.region [0, 3, 23, 24, 25, 26] (some []) none
     [⟨some 26, .bin .lss (.t 25) (.t 24), [], [], none, none⟩])
  (.seq (.cond (.t 26) (.skip)
    (.exit 0))
   (.seq (.block 1 [0, 3, 23, 24, 25] (some []) (.seq (.region [0, 3, 4, 5, 23, 24, 25] (some []) none
         [⟨some 27, .mv (.t 25), [], [], none, none⟩,
          ⟨some 28, .iaddr 1 (.t 23) (.t 25), [], [], none, none⟩,
          ⟨some 29, .load none (.t 28), [], [], none, none⟩,
          ⟨some 4, .mv (.t 27), [], [], none, none⟩,
          ⟨some 5, .mv (.t 29), [], [], none, none⟩])
      (R_c5)))
    (R_c6)))))
 (h : demand (binV BinOp.lss (s 25) (s 24)) (fun x1 =>
condK x1
 (demand (iaddrV (looko ([].map fun n => (n, o n))) 1 (s 23) (s 25)) (fun x2 =>
demand (loadV (looko ([].map fun n => (n, o n))) none x2) (fun x3 =>
wpB C I R_c5 (St.mk (look [(0, (s 0)), (3, (s 3)), (4, (s 25)), (5, x3), (23, (s 23)), (24, (s 24)), (25, (s 25))]) (looko ([].map fun n => (n, o n)))) (blockK 1 [0, 3, 23, 24, 25] (some []) (seqK (fun st => wpB C I R_c6 st (seqK (fun s => wpB C I R_l0 s Q) Q)) (seqK (fun s => wpB C I R_l0 s Q) Q))))))
 (Q (.exit 0) (St.mk (look [(0, (s 0)), (3, (s 3)), (23, (s 23)), (24, (s 24)), (25, (s 25)), (26, x1)]) (looko ([].map fun n => (n, o n))))))) : wpB C I R_l0 (St.mk s o) Q := w_loopC hL h
theorem g_law08_TreeLeft_o3_sh : opsB C I [⟨some 85, .pick (.t 76) (.c (.d (.bool true))) (.t 84), [], [], none, none⟩] (St.mk s o) K =
 (demand (pickV (s 76) (V.d (.bool true)) (s 84)) (fun x1 =>
K (St.mk (upd s 85 x1) o))) := rfl
@[instance] theorem g_law08_TreeLeft_o3_u : UnfAt (opsB C I g_law08_TreeLeft.o3 (St.mk s o) K) g_law08_TreeLeft_o3_sh := Unf.of _
theorem g_law08_TreeLeft_o2_sh : opsB C I (⟨some 77, .faddr 1 (.t 7), [], [], (some (2, 76, false)), none⟩ ::
     ⟨some 78, .load none (.t 77), [], [], (some (2, 76, false)), none⟩ ::
     ⟨some 79, .len (.t 78), [], [], (some (2, 76, false)), none⟩ ::
     ⟨some 80, .mv (.t 0), [], [], (some (2, 76, false)), none⟩ ::
     ⟨some 81, .len (.t 80), [], [], (some (2, 76, false)), none⟩ ::
     ⟨some 82, .bin .mul (.c (.d (.int .i64 2))) (.t 81), [], [], (some (2, 76, false)), none⟩ ::
     ⟨some 83, .bin .sub (.t 82) (.c (.d (.int .i64 1))), [], [], (some (2, 76, false)), none⟩ ::
     ⟨some 84, .bin .neq (.t 79) (.t 83), [], [], (some (2, 76, false)), (some ([0, 7, 76, 84], (some [7])))⟩ ::
     R_o3) (St.mk s o) K =
 (guardK (s 76) false
 (demand (faddrV 1 (s 7)) (fun x1 =>
demand (loadV o none x1) (fun x2 =>
demand (lenV o x2) (fun x3 =>
demand (lenV o (s 0)) (fun x4 =>
demand (binV BinOp.mul (V.d (.int .i64 2)) x4) (fun x5 =>
demand (binV BinOp.sub x5 (V.d (.int .i64 1))) (fun x6 =>
demand (binV BinOp.neq x3 x6) (fun x7 =>
opsB C I R_o3 (St.mk (look [(0, (s 0)), (7, (s 7)), (76, (V.d (D.bool false))), (84, x7)]) (looko ([7].map fun n => (n, o n)))) K))))))))
 (opsB C I R_o3 (St.mk (look [(0, (s 0)), (7, (s 7)), (76, (V.d (D.bool true))), (84, (V.tup []))]) (looko ([7].map fun n => (n, o n)))) K)
 (opsB C I R_o3 (St.mk (look [(0, (s 0)), (7, (s 7)), (76, (V.tup [])), (84, (V.tup []))]) (looko ([7].map fun n => (n, o n)))) K)) := rfl
@[instance] theorem g_law08_TreeLeft_o2_u : UnfAt (opsB C I g_law08_TreeLeft.o2 (St.mk s o) K) g_law08_TreeLeft_o2_sh := Unf.of _
theorem g_law08_TreeLeft_c7_sh : wpB C I (.cond (.t 85) (.seq (.region [2] (some []) none
     [⟨some 2, .mv (.c (.d (.bool false))), [], [], none, none⟩])
  (.ret))
 (.skip)) (St.mk s o) Q =
 (condK (s 85)
 (Q .ret (St.mk (look [(2, (V.d (.bool false)))]) (looko ([].map fun n => (n, o n)))))
 (Q .normal (St.mk s o))) := rfl
@[instance] theorem g_law08_TreeLeft_c7_u : UnfAt (wpB C I g_law08_TreeLeft.c7 (St.mk s o) Q) g_law08_TreeLeft_c7_sh := Unf.of _
theorem g_law08_TreeLeft_o5_sh : opsB C I [⟨some 112, .pick (.t 105) (.c (.d (.bool true))) (.t 111), [], [], none, none⟩] (St.mk s o) K =
 (demand (pickV (s 105) (V.d (.bool true)) (s 111)) (fun x1 =>
K (St.mk (upd s 112 x1) o))) := rfl
@[instance] theorem g_law08_TreeLeft_o5_u : UnfAt (opsB C I g_law08_TreeLeft.o5 (St.mk s o) K) g_law08_TreeLeft_o5_sh := Unf.of _
theorem g_law08_TreeLeft_o4_sh : opsB C I (⟨some 106, .faddr 2 (.t 13), [], [], (some (3, 105, false)), none⟩ ::
     ⟨some 107, .load none (.t 106), [], [], (some (3, 105, false)), none⟩ ::
     ⟨some 108, .mv (.t 11), [], [], (some (3, 105, false)), none⟩ ::
     ⟨some 109, .bin .rem (.t 108) (.c (.d (.int .u16 1000))), [], [], (some (3, 105, false)), none⟩ ::
     ⟨some 110, .conv .i64 (.t 109), [], [], (some (3, 105, false)), none⟩ ::
     ⟨some 111, .bin .neq (.t 107) (.t 110), [], [], (some (3, 105, false)), (some ([7, 10, 86, 87, 88, 105, 111], (some [7])))⟩ ::
     R_o5) (St.mk s o) K =
 (guardK (s 105) false
 (demand (faddrV 2 (s 13)) (fun x1 =>
demand (loadV o none x1) (fun x2 =>
demand (binV BinOp.rem (s 11) (V.d (.int .u16 1000))) (fun x3 =>
demand (convV IntKind.i64 x3) (fun x4 =>
demand (binV BinOp.neq x2 x4) (fun x5 =>
opsB C I R_o5 (St.mk (look [(7, (s 7)), (10, (s 10)), (86, (s 86)), (87, (s 87)), (88, (s 88)), (105, (V.d (D.bool false))), (111, x5)]) (looko ([7].map fun n => (n, o n)))) K))))))
 (opsB C I R_o5 (St.mk (look [(7, (s 7)), (10, (s 10)), (86, (s 86)), (87, (s 87)), (88, (s 88)), (105, (V.d (D.bool true))), (111, (V.tup []))]) (looko ([7].map fun n => (n, o n)))) K)
 (opsB C I R_o5 (St.mk (look [(7, (s 7)), (10, (s 10)), (86, (s 86)), (87, (s 87)), (88, (s 88)), (105, (V.tup [])), (111, (V.tup []))]) (looko ([7].map fun n => (n, o n)))) K)) := rfl
@[instance] theorem g_law08_TreeLeft_o4_u : UnfAt (opsB C I g_law08_TreeLeft.o4 (St.mk s o) K) g_law08_TreeLeft_o4_sh := Unf.of _
theorem g_law08_TreeLeft_c8_sh : wpB C I (.cond (.t 112) (.seq (.region [2] (some []) none
     [⟨some 2, .mv (.c (.d (.bool false))), [], [], none, none⟩])
  (.ret))
 (.skip)) (St.mk s o) Q =
 (condK (s 112)
 (Q .ret (St.mk (look [(2, (V.d (.bool false)))]) (looko ([].map fun n => (n, o n)))))
 (Q .normal (St.mk s o))) := rfl
@[instance] theorem g_law08_TreeLeft_c8_u : UnfAt (wpB C I g_law08_TreeLeft.c8 (St.mk s o) Q) g_law08_TreeLeft_c8_sh := Unf.of _
theorem g_law08_TreeLeft_c9_sh : wpB C I (.seq (.region [7, 10, 86, 87, 88, 112] (some [7]) none
    (⟨some 102, .faddr 0 (.t 13), [], [], none, none⟩ ::
     ⟨some 103, .load none (.t 102), [], [], none, none⟩ ::
     ⟨some 104, .bin .neq (.t 103) (.c (.d (.str [119, 104, 111, 108, 101]))), [], [], none, none⟩ ::
     ⟨some 105, .mv (.t 104), [], [], none, (some ([7, 10, 11, 13, 86, 87, 88, 105], (some [7, 13])))⟩ ::
     R_o4))
 (R_c8)) (St.mk s o) Q =
 (demand (faddrV 0 (s 13)) (fun x1 =>
demand (loadV o none x1) (fun x2 =>
demand (binV BinOp.neq x2 (V.d (.str [119, 104, 111, 108, 101]))) (fun x3 =>
opsB C I R_o4 (St.mk (look [(7, (s 7)), (10, (s 10)), (11, (s 11)), (13, (s 13)), (86, (s 86)), (87, (s 87)), (88, (s 88)), (105, x3)]) (looko ([7, 13].map fun n => (n, o n)))) (fun st => (seqK (fun st => wpB C I R_c8 st Q) Q) .normal (St.trim st [7, 10, 86, 87, 88, 112] (some [7]))))))) := rfl
@[instance] theorem g_law08_TreeLeft_c9_u : UnfAt (wpB C I g_law08_TreeLeft.c9 (St.mk s o) Q) g_law08_TreeLeft_c9_sh := Unf.of _
theorem g_law08_TreeLeft_o11_sh : opsB C I [⟨some 150, .pick (.t 115) (.t 149) (.c (.d (.bool false))), [], [], none, none⟩] (St.mk s o) K =
 (demand (pickV (s 115) (s 149) (V.d (.bool false))) (fun x1 =>
K (St.mk (upd s 150 x1) o))) := rfl
@[instance] theorem g_law08_TreeLeft_o11_u : UnfAt (opsB C I g_law08_TreeLeft.o11 (St.mk s o) K) g_law08_TreeLeft_o11_sh := Unf.of _
theorem g_law08_TreeLeft_o10_sh : opsB C I (⟨some 149, .pick (.t 137) (.c (.d (.bool true))) (.t 148), [], [], (some (2, 115, true)), (some ([7, 86, 87, 88, 115, 149], (some [7])))⟩ ::
     R_o11) (St.mk s o) K =
 (guardK (s 115) true
 (demand (pickV (s 137) (V.d (.bool true)) (s 148)) (fun x1 =>
opsB C I R_o11 (St.mk (look [(7, (s 7)), (86, (s 86)), (87, (s 87)), (88, (s 88)), (115, (V.d (D.bool true))), (149, x1)]) (looko ([7].map fun n => (n, o n)))) K))
 (opsB C I R_o11 (St.mk (look [(7, (s 7)), (86, (s 86)), (87, (s 87)), (88, (s 88)), (115, (V.d (D.bool false))), (149, (V.tup []))]) (looko ([7].map fun n => (n, o n)))) K)
 (opsB C I R_o11 (St.mk (look [(7, (s 7)), (86, (s 86)), (87, (s 87)), (88, (s 88)), (115, (V.tup [])), (149, (V.tup []))]) (looko ([7].map fun n => (n, o n)))) K)) := rfl
@[instance] theorem g_law08_TreeLeft_o10_u : UnfAt (opsB C I g_law08_TreeLeft.o10 (St.mk s o) K) g_law08_TreeLeft_o10_sh := Unf.of _
theorem g_law08_TreeLeft_o9_sh : opsB C I (⟨some 138, .faddr 1 (.t 7), [], [], (some (24, 137, false)), none⟩ ::
     ⟨some 139, .load none (.t 138), [], [], (some (24, 137, false)), none⟩ ::
     ⟨some 140, .mv (.t 10), [], [], (some (24, 137, false)), none⟩ ::
     ⟨some 141, .bin .mul (.c (.d (.int .i64 2))) (.t 140), [], [], (some (24, 137, false)), none⟩ ::
     ⟨some 142, .iaddr 6 (.t 139) (.t 141), [], [], (some (24, 137, false)), none⟩ ::
     ⟨some 143, .faddr 4 (.t 142), [], [], (some (24, 137, false)), none⟩ ::
     ⟨some 144, .load none (.t 143), [], [], (some (24, 137, false)), none⟩ ::
     ⟨some 145, .mv (.t 10), [], [], (some (24, 137, false)), none⟩ ::
     ⟨some 146, .bin .mul (.c (.d (.int .i64 2))) (.t 145), [], [], (some (24, 137, false)), none⟩ ::
     ⟨some 147, .bin .sub (.t 146) (.c (.d (.int .i64 1))), [], [], (some (24, 137, false)), none⟩ ::
     ⟨some 148, .bin .neq (.t 144) (.t 147), [], [], (some (24, 137, false)), (some ([7, 86, 87, 88, 115, 137, 148], (some [7])))⟩ ::
     R_o10) (St.mk s o) K =
 (guardK (s 137) false
 (demand (faddrV 1 (s 7)) (fun x1 =>
demand (loadV o none x1) (fun x2 =>
demand (binV BinOp.mul (V.d (.int .i64 2)) (s 10)) (fun x3 =>
demand (iaddrV o 6 x2 x3) (fun x4 =>
demand (faddrV 4 x4) (fun x5 =>
demand (loadV o none x5) (fun x6 =>
demand (binV BinOp.mul (V.d (.int .i64 2)) (s 10)) (fun x7 =>
demand (binV BinOp.sub x7 (V.d (.int .i64 1))) (fun x8 =>
demand (binV BinOp.neq x6 x8) (fun x9 =>
opsB C I R_o10 (St.mk (look [(7, (s 7)), (86, (s 86)), (87, (s 87)), (88, (s 88)), (115, (s 115)), (137, (V.d (D.bool false))), (148, x9)]) (looko ([7].map fun n => (n, o n)))) K))))))))))
 (opsB C I R_o10 (St.mk (look [(7, (s 7)), (86, (s 86)), (87, (s 87)), (88, (s 88)), (115, (s 115)), (137, (V.d (D.bool true))), (148, (V.tup []))]) (looko ([7].map fun n => (n, o n)))) K)
 (opsB C I R_o10 (St.mk (look [(7, (s 7)), (86, (s 86)), (87, (s 87)), (88, (s 88)), (115, (s 115)), (137, (V.tup [])), (148, (V.tup []))]) (looko ([7].map fun n => (n, o n)))) K)) := rfl
@[instance] theorem g_law08_TreeLeft_o9_u : UnfAt (opsB C I g_law08_TreeLeft.o9 (St.mk s o) K) g_law08_TreeLeft_o9_sh := Unf.of _
theorem g_law08_TreeLeft_o8_sh : opsB C I (⟨some 136, .pick (.t 124) (.c (.d (.bool true))) (.t 135), [], [], (some (2, 115, true)), none⟩ ::
     ⟨some 137, .mv (.t 136), [], [], (some (2, 115, true)), (some ([7, 10, 86, 87, 88, 115, 137], (some [7])))⟩ ::
     R_o9) (St.mk s o) K =
 (guardK (s 115) true
 (demand (pickV (s 124) (V.d (.bool true)) (s 135)) (fun x1 =>
opsB C I R_o9 (St.mk (look [(7, (s 7)), (10, (s 10)), (86, (s 86)), (87, (s 87)), (88, (s 88)), (115, (V.d (D.bool true))), (137, x1)]) (looko ([7].map fun n => (n, o n)))) K))
 (opsB C I R_o9 (St.mk (look [(7, (s 7)), (10, (s 10)), (86, (s 86)), (87, (s 87)), (88, (s 88)), (115, (V.d (D.bool false))), (137, (V.tup []))]) (looko ([7].map fun n => (n, o n)))) K)
 (opsB C I R_o9 (St.mk (look [(7, (s 7)), (10, (s 10)), (86, (s 86)), (87, (s 87)), (88, (s 88)), (115, (V.tup [])), (137, (V.tup []))]) (looko ([7].map fun n => (n, o n)))) K)) := rfl
@[instance] theorem g_law08_TreeLeft_o8_u : UnfAt (opsB C I g_law08_TreeLeft.o8 (St.mk s o) K) g_law08_TreeLeft_o8_sh := Unf.of _
theorem g_law08_TreeLeft_o7_sh : opsB C I (⟨some 125, .faddr 1 (.t 7), [], [], (some (11, 124, false)), none⟩ ::
     ⟨some 126, .load none (.t 125), [], [], (some (11, 124, false)), none⟩ ::
     ⟨some 127, .mv (.t 10), [], [], (some (11, 124, false)), none⟩ ::
     ⟨some 128, .bin .mul (.c (.d (.int .i64 2))) (.t 127), [], [], (some (11, 124, false)), none⟩ ::
     ⟨some 129, .iaddr 6 (.t 126) (.t 128), [], [], (some (11, 124, false)), none⟩ ::
     ⟨some 130, .faddr 3 (.t 129), [], [], (some (11, 124, false)), none⟩ ::
     ⟨some 131, .load none (.t 130), [], [], (some (11, 124, false)), none⟩ ::
     ⟨some 132, .mv (.t 10), [], [], (some (11, 124, false)), none⟩ ::
     ⟨some 133, .bin .mul (.c (.d (.int .i64 2))) (.t 132), [], [], (some (11, 124, false)), none⟩ ::
     ⟨some 134, .bin .sub (.t 133) (.c (.d (.int .i64 2))), [], [], (some (11, 124, false)), none⟩ ::
     ⟨some 135, .bin .neq (.t 131) (.t 134), [], [], (some (11, 124, false)), (some ([7, 10, 86, 87, 88, 115, 124, 135], (some [7])))⟩ ::
     R_o8) (St.mk s o) K =
 (guardK (s 124) false
 (demand (faddrV 1 (s 7)) (fun x1 =>
demand (loadV o none x1) (fun x2 =>
demand (binV BinOp.mul (V.d (.int .i64 2)) (s 10)) (fun x3 =>
demand (iaddrV o 6 x2 x3) (fun x4 =>
demand (faddrV 3 x4) (fun x5 =>
demand (loadV o none x5) (fun x6 =>
demand (binV BinOp.mul (V.d (.int .i64 2)) (s 10)) (fun x7 =>
demand (binV BinOp.sub x7 (V.d (.int .i64 2))) (fun x8 =>
demand (binV BinOp.neq x6 x8) (fun x9 =>
opsB C I R_o8 (St.mk (look [(7, (s 7)), (10, (s 10)), (86, (s 86)), (87, (s 87)), (88, (s 88)), (115, (s 115)), (124, (V.d (D.bool false))), (135, x9)]) (looko ([7].map fun n => (n, o n)))) K))))))))))
 (opsB C I R_o8 (St.mk (look [(7, (s 7)), (10, (s 10)), (86, (s 86)), (87, (s 87)), (88, (s 88)), (115, (s 115)), (124, (V.d (D.bool true))), (135, (V.tup []))]) (looko ([7].map fun n => (n, o n)))) K)
 (opsB C I R_o8 (St.mk (look [(7, (s 7)), (10, (s 10)), (86, (s 86)), (87, (s 87)), (88, (s 88)), (115, (s 115)), (124, (V.tup [])), (135, (V.tup []))]) (looko ([7].map fun n => (n, o n)))) K)) := rfl
@[instance] theorem g_law08_TreeLeft_o7_u : UnfAt (opsB C I g_law08_TreeLeft.o7 (St.mk s o) K) g_law08_TreeLeft_o7_sh := Unf.of _
theorem g_law08_TreeLeft_o6_sh : opsB C I (⟨some 116, .faddr 1 (.t 7), [], [], (some (2, 115, true)), none⟩ ::
     ⟨some 117, .load none (.t 116), [], [], (some (2, 115, true)), none⟩ ::
     ⟨some 118, .mv (.t 10), [], [], (some (2, 115, true)), none⟩ ::
     ⟨some 119, .bin .mul (.c (.d (.int .i64 2))) (.t 118), [], [], (some (2, 115, true)), none⟩ ::
     ⟨some 120, .iaddr 6 (.t 117) (.t 119), [], [], (some (2, 115, true)), none⟩ ::
     ⟨some 121, .faddr 0 (.t 120), [], [], (some (2, 115, true)), none⟩ ::
     ⟨some 122, .load none (.t 121), [], [], (some (2, 115, true)), none⟩ ::
     ⟨some 123, .bin .neq (.t 122) (.c (.d (.str [43]))), [], [], (some (2, 115, true)), none⟩ ::
     ⟨some 124, .mv (.t 123), [], [], (some (2, 115, true)), (some ([7, 10, 86, 87, 88, 115, 124], (some [7])))⟩ ::
     R_o7) (St.mk s o) K =
 (guardK (s 115) true
 (demand (faddrV 1 (s 7)) (fun x1 =>
demand (loadV o none x1) (fun x2 =>
demand (binV BinOp.mul (V.d (.int .i64 2)) (s 10)) (fun x3 =>
demand (iaddrV o 6 x2 x3) (fun x4 =>
demand (faddrV 0 x4) (fun x5 =>
demand (loadV o none x5) (fun x6 =>
demand (binV BinOp.neq x6 (V.d (.str [43]))) (fun x7 =>
opsB C I R_o7 (St.mk (look [(7, (s 7)), (10, (s 10)), (86, (s 86)), (87, (s 87)), (88, (s 88)), (115, (V.d (D.bool true))), (124, x7)]) (looko ([7].map fun n => (n, o n)))) K))))))))
 (opsB C I R_o7 (St.mk (look [(7, (s 7)), (10, (s 10)), (86, (s 86)), (87, (s 87)), (88, (s 88)), (115, (V.d (D.bool false))), (124, (V.tup []))]) (looko ([7].map fun n => (n, o n)))) K)
 (opsB C I R_o7 (St.mk (look [(7, (s 7)), (10, (s 10)), (86, (s 86)), (87, (s 87)), (88, (s 88)), (115, (V.tup [])), (124, (V.tup []))]) (looko ([7].map fun n => (n, o n)))) K)) := rfl
@[instance] theorem g_law08_TreeLeft_o6_u : UnfAt (opsB C I g_law08_TreeLeft.o6 (St.mk s o) K) g_law08_TreeLeft_o6_sh := Unf.of _
theorem g_law08_TreeLeft_c10_sh : wpB C I (.cond (.t 150) (.seq (.region [2] (some []) none
     [⟨some 2, .mv (.c (.d (.bool false))), [], [], none, none⟩])
  (.ret))
 (.skip)) (St.mk s o) Q =
 (condK (s 150)
 (Q .ret (St.mk (look [(2, (V.d (.bool false)))]) (looko ([].map fun n => (n, o n)))))
 (Q .normal (St.mk s o))) := rfl
@[instance] theorem g_law08_TreeLeft_c10_u : UnfAt (wpB C I g_law08_TreeLeft.c10 (St.mk s o) Q) g_law08_TreeLeft_c10_sh := Unf.of _
theorem g_law08_TreeLeft_c11_sh : wpB C I (.seq (.region [7, 86, 87, 88, 150] (some [7]) none
    (⟨some 113, .mv (.t 10), [], [], none, none⟩ ::
     ⟨some 114, .bin .gtr (.t 113) (.c (.d (.int .i64 0))), [], [], none, none⟩ ::
     ⟨some 115, .mv (.t 114), [], [], none, (some ([7, 10, 86, 87, 88, 115], (some [7])))⟩ ::
     R_o6))
 (R_c10)) (St.mk s o) Q =
 (demand (binV BinOp.gtr (s 10) (V.d (.int .i64 0))) (fun x1 =>
opsB C I R_o6 (St.mk (look [(7, (s 7)), (10, (s 10)), (86, (s 86)), (87, (s 87)), (88, (s 88)), (115, x1)]) (looko ([7].map fun n => (n, o n)))) (fun st => (seqK (fun st => wpB C I R_c10 st Q) Q) .normal (St.trim st [7, 86, 87, 88, 150] (some [7]))))) := rfl
@[instance] theorem g_law08_TreeLeft_c11_u : UnfAt (wpB C I g_law08_TreeLeft.c11 (St.mk s o) Q) g_law08_TreeLeft_c11_sh := Unf.of _
theorem g_law08_TreeLeft_c12_sh : wpB C I (.seq (.seq (.region [7, 10, 11, 13, 86, 87, 88] (some [7, 13]) none
     [⟨some 97, .faddr 1 (.t 7), [], [], none, none⟩,
      ⟨some 98, .load none (.t 97), [], [], none, none⟩,
      ⟨some 99, .mv (.t 12), [], [], none, none⟩,
      ⟨some 100, .iaddr 6 (.t 98) (.t 99), [], [], none, none⟩,
      ⟨some 101, .load (some 6) (.t 100), [], [], none, none⟩,
      ⟨some 13, .alloc 13 [.d (.str []), .d (.str []), .d (.int .i64 0), .d (.int .i64 0), .d (.int .i64 0), .d (.int .i64 0)], [], [], none, none⟩,
      ⟨none, .store 6 (.t 13) (.t 101), [], [], none, none⟩])
  (R_c9))
 (R_c11)) (St.mk s o) Q =
 (demand (faddrV 1 (s 7)) (fun x1 =>
demand (loadV o none x1) (fun x2 =>
demand (iaddrV o 6 x2 (s 12)) (fun x3 =>
demand (loadV o (some 6) x3) (fun x4 =>
(¬ I 13 ∧ Fresh (St.mk (upd (upd (upd (upd (upd s 97 x1) 98 x2) 99 (s 12)) 100 x3) 101 x4) o) 13 (some 13) ∧ V.refsL 13 [V.d (.str []), V.d (.str []), V.d (.int .i64 0), V.d (.int .i64 0), V.d (.int .i64 0), V.d (.int .i64 0)] = false ∧
storeK (V.ptr 13 0) (cellsV x4) 6 (upd o 13 (some (Ob.box [V.d (.str []), V.d (.str []), V.d (.int .i64 0), V.d (.int .i64 0), V.d (.int .i64 0), V.d (.int .i64 0)]))) (fun m5 ob6 =>
wpB C I R_c9 (St.mk (look [(7, (s 7)), (10, (s 10)), (11, (s 11)), (13, (V.ptr 13 0)), (86, (s 86)), (87, (s 87)), (88, (s 88))]) (looko ([7, 13].map fun n => (n, (upd (upd o 13 (some (Ob.box [V.d (.str []), V.d (.str []), V.d (.int .i64 0), V.d (.int .i64 0), V.d (.int .i64 0), V.d (.int .i64 0)]))) m5 (some ob6)) n)))) (seqK (fun st => wpB C I R_c11 st Q) Q)))))))) := rfl
@[instance] theorem g_law08_TreeLeft_c12_u : UnfAt (wpB C I g_law08_TreeLeft.c12 (St.mk s o) Q) g_law08_TreeLeft_c12_sh := Unf.of _
theorem g_law08_TreeLeft_c13_sh : wpB C I (.seq (.region [7, 10, 11, 12, 86, 87, 88] (some [7]) none
    [⟨some 93, .mv (.t 10), [], [], none, none⟩,
     ⟨some 94, .bin .mul (.c (.d (.int .i64 2))) (.t 93), [], [], none, none⟩,
     ⟨some 95, .bin .sub (.t 94) (.c (.d (.int .i64 1))), [], [], none, none⟩,
     ⟨some 96, .mm true [(.t 95), (.c (.d (.int .i64 0)))], [], [], none, none⟩,
     ⟨some 12, .mv (.t 96), [], [], none, none⟩])
 (R_c12)) (St.mk s o) Q =
 (demand (binV BinOp.mul (V.d (.int .i64 2)) (s 10)) (fun x1 =>
demand (binV BinOp.sub x1 (V.d (.int .i64 1))) (fun x2 =>
demand (mmV true [x2, (V.d (.int .i64 0))]) (fun x3 =>
wpB C I R_c12 (St.mk (look [(7, (s 7)), (10, (s 10)), (11, (s 11)), (12, x3), (86, (s 86)), (87, (s 87)), (88, (s 88))]) (looko ([7].map fun n => (n, o n)))) Q)))) := rfl
@[instance] theorem g_law08_TreeLeft_c13_u : UnfAt (wpB C I g_law08_TreeLeft.c13 (St.mk s o) Q) g_law08_TreeLeft_c13_sh := Unf.of _
theorem g_law08_TreeLeft_c14_sh : wpB C I (.region [7, 86, 87, 88] (some [7]) none
   [⟨some 151, .bin .add (.t 88) (.c (.d (.int .i64 1))), [], [], none, none⟩,
    ⟨some 88, .mv (.t 151), [], [], none, none⟩]) (St.mk s o) Q =
 (demand (binV BinOp.add (s 88) (V.d (.int .i64 1))) (fun x1 =>
Q .normal (St.mk (look [(7, (s 7)), (86, (s 86)), (87, (s 87)), (88, x1)]) (looko ([7].map fun n => (n, o n)))))) := rfl
@[instance] theorem g_law08_TreeLeft_c14_u : UnfAt (wpB C I g_law08_TreeLeft.c14 (St.mk s o) Q) g_law08_TreeLeft_c14_sh := Unf.of _
theorem g_law08_TreeLeft_l1_sh (hL : R_l1 = .loop [7, 86, 87, 88] (some [7]) (.seq (.region [7, 86, 87, 88, 89] (some [7]) none
     [⟨some 89, .bin .lss (.t 88) (.t 87), [], [], none, none⟩])
  (.seq (.cond (.t 89) (.skip)
    (.exit 2))
   (.seq (.block 3 [7, 86, 87, 88] (some [7]) (.seq (.region [7, 10, 11, 86, 87, 88] (some [7]) none
         [⟨some 90, .mv (.t 88), [], [], none, none⟩,
          ⟨some 91, .iaddr 1 (.t 86) (.t 88), [], [], none, none⟩,
          ⟨some 92, .load none (.t 91), [], [], none, none⟩,
          ⟨some 10, .mv (.t 90), [], [], none, none⟩,
          ⟨some 11, .mv (.t 92), [], [], none, none⟩])
      (R_c13)))
    (R_c14)))))
 (h : demand (binV BinOp.lss (s 88) (s 87)) (fun x1 =>
condK x1
 (demand (iaddrV (looko ([7].map fun n => (n, o n))) 1 (s 86) (s 88)) (fun x2 =>
demand (loadV (looko ([7].map fun n => (n, o n))) none x2) (fun x3 =>
wpB C I R_c13 (St.mk (look [(7, (s 7)), (10, (s 88)), (11, x3), (86, (s 86)), (87, (s 87)), (88, (s 88))]) (looko ([7].map fun n => (n, o n)))) (blockK 3 [7, 86, 87, 88] (some [7]) (seqK (fun st => wpB C I R_c14 st (seqK (fun s => wpB C I R_l1 s Q) Q)) (seqK (fun s => wpB C I R_l1 s Q) Q))))))
 (Q (.exit 2) (St.mk (look [(7, (s 7)), (86, (s 86)), (87, (s 87)), (88, (s 88)), (89, x1)]) (looko ([7].map fun n => (n, o n))))))) : wpB C I R_l1 (St.mk s o) Q := w_loopC hL h
theorem g_law08_TreeLeft_c15_sh : wpB C I (.seq (.region [2] (some []) none
    [⟨some 152, .call 143 [], [], [], none, none⟩,
     ⟨some 2, .mv (.t 152), [], [], none, none⟩])
 (.ret)) (St.mk s o) Q =
 (callK C I (St.mk s o) (some 152) 143 [] (fun r1 or1 =>
Q .ret (St.mk (look [(2, r1)]) (looko ([].map fun n => (n, or1 n)))))) := rfl
@[instance] theorem g_law08_TreeLeft_c15_u : UnfAt (wpB C I g_law08_TreeLeft.c15 (St.mk s o) Q) g_law08_TreeLeft_c15_sh := Unf.of _
theorem g_law08_TreeLeft_c16_sh : wpB C I (.seq (.seq (.region [7, 86, 87, 88] (some [7]) none
     [⟨some 86, .mv (.t 0), [], [], none, none⟩,
      ⟨some 87, .len (.t 86), [], [], none, none⟩,
      ⟨some 88, .mv (.c (.d (.int .i64 0))), [], [], none, none⟩])
  (.block 2 [] (some []) (R_l1)))
 (R_c15)) (St.mk s o) Q =
 (demand (lenV o (s 0)) (fun x1 =>
wpB C I R_l1 (St.mk (look [(7, (s 7)), (86, (s 0)), (87, x1), (88, (V.d (.int .i64 0)))]) (looko ([7].map fun n => (n, o n)))) (blockK 2 [] (some []) (seqK (fun st => wpB C I R_c15 st Q) Q)))) := rfl
@[instance] theorem g_law08_TreeLeft_c16_u : UnfAt (wpB C I g_law08_TreeLeft.c16 (St.mk s o) Q) g_law08_TreeLeft_c16_sh := Unf.of _
theorem g_law08_TreeLeft_c17_sh : wpB C I (.seq (.seq (.region [0, 7, 85] (some [7]) none
     (⟨some 74, .mv (.t 9), [], [], none, none⟩ ::
      ⟨some 75, .bin .neq (.t 74) (.c (.d (.int .i64 0))), [], [], none, none⟩ ::
      ⟨some 76, .mv (.t 75), [], [], none, (some ([0, 7, 76], (some [7])))⟩ ::
      R_o2))
  (R_c7))
 (R_c16)) (St.mk s o) Q =
 (demand (binV BinOp.neq (s 9) (V.d (.int .i64 0))) (fun x1 =>
opsB C I R_o2 (St.mk (look [(0, (s 0)), (7, (s 7)), (76, x1)]) (looko ([7].map fun n => (n, o n)))) (fun st => (seqK (fun st => wpB C I R_c7 st (seqK (fun st => wpB C I R_c16 st Q) Q)) (seqK (fun st => wpB C I R_c16 st Q) Q)) .normal (St.trim st [0, 7, 85] (some [7]))))) := rfl
@[instance] theorem g_law08_TreeLeft_c17_u : UnfAt (wpB C I g_law08_TreeLeft.c17 (St.mk s o) Q) g_law08_TreeLeft_c17_sh := Unf.of _
theorem g_law08_TreeLeft_c18_sh : wpB C I (.seq (.region [0, 7, 9] (some [7]) none
    [⟨some 68, .mv (.t 3), [], [], none, none⟩,
     ⟨some 69, .bin .add (.t 68) (.c (.d (.str [59]))), [], [], none, none⟩,
     ⟨some 70, .call 144 [(.t 69)], [], [], none, none⟩,
     ⟨some 67, .mv (.t 70), [], [], none, none⟩,
     ⟨some 71, .ext (.t 67) 0, [], [], none, none⟩,
     ⟨some 72, .ext (.t 67) 1, [], [], none, none⟩,
     ⟨some 73, .ext (.t 67) 2, [], [], none, none⟩,
     ⟨some 7, .alloc 7 [.cap0, .cap0], [], [], none, none⟩,
     ⟨none, .store 2 (.t 7) (.t 71), [], [], none, none⟩,
     ⟨some 8, .mv (.t 72), [], [], none, none⟩,
     ⟨some 9, .mv (.t 73), [], [], none, none⟩])
 (R_c17)) (St.mk s o) Q =
 (demand (binV BinOp.add (s 3) (V.d (.str [59]))) (fun x1 =>
callK C I (St.mk (upd (upd s 68 (s 3)) 69 x1) o) (some 70) 144 [x1] (fun r2 or2 =>
demand (extV r2 0) (fun x3 =>
demand (extV r2 1) (fun x4 =>
demand (extV r2 2) (fun x5 =>
(¬ I 7 ∧ Fresh (St.mk (upd (upd (upd (upd (upd (upd (upd s 68 (s 3)) 69 x1) 70 r2) 67 r2) 71 x3) 72 x4) 73 x5) or2) 7 (some 7) ∧ V.refsL 7 [V.cap0, V.cap0] = false ∧
storeK (V.ptr 7 0) (cellsV x3) 2 (upd or2 7 (some (Ob.box [V.cap0, V.cap0]))) (fun m6 ob7 =>
wpB C I R_c17 (St.mk (look [(0, (s 0)), (7, (V.ptr 7 0)), (9, x5)]) (looko ([7].map fun n => (n, (upd (upd or2 7 (some (Ob.box [V.cap0, V.cap0]))) m6 (some ob7)) n)))) Q)))))))) := rfl
@[instance] theorem g_law08_TreeLeft_c18_u : UnfAt (wpB C I g_law08_TreeLeft.c18 (St.mk s o) Q) g_law08_TreeLeft_c18_sh := Unf.of _
theorem g_law08_TreeLeft_c19_sh : wpB C I (.seq (.region [0, 3] (some []) none
    [⟨some 3, .mv (.c (.d (.str [108, 101, 116, 32, 97, 32, 61, 32]))), [], [], none, none⟩])
 (.seq (.seq (.region [0, 3, 23, 24, 25] (some []) none
      [⟨some 23, .mv (.t 0), [], [], none, none⟩,
       ⟨some 24, .len (.t 23), [], [], none, none⟩,
       ⟨some 25, .mv (.c (.d (.int .i64 0))), [], [], none, none⟩])
   (.block 0 [0, 3] (some []) (R_l0)))
  (R_c18))) (St.mk s o) Q =
 (demand (lenV (looko ([].map fun n => (n, o n))) (s 0)) (fun x1 =>
wpB C I R_l0 (St.mk (look [(0, (s 0)), (3, (V.d (.str [108, 101, 116, 32, 97, 32, 61, 32]))), (23, (s 0)), (24, x1), (25, (V.d (.int .i64 0)))]) (looko ([].map fun n => (n, o n)))) (blockK 0 [0, 3] (some []) (seqK (fun st => wpB C I R_c18 st Q) Q)))) := rfl
@[instance] theorem g_law08_TreeLeft_c19_u : UnfAt (wpB C I g_law08_TreeLeft.c19 (St.mk s o) Q) g_law08_TreeLeft_c19_sh := Unf.of _
theorem g_law08_TreeLeft_code_sh : wpB C I (.seq (.region [0] (some []) none
    [⟨some 2, .mv (.c (.d (.bool false))), [], [], none, none⟩])
 (.seq (.seq (.region [0, 21] (some []) none
      (⟨some 14, .mv (.t 0), [], [], none, none⟩ ::
       ⟨some 15, .len (.t 14), [], [], none, none⟩ ::
       ⟨some 16, .bin .eql (.t 15) (.c (.d (.int .i64 0))), [], [], none, none⟩ ::
       ⟨some 17, .mv (.t 16), [], [], none, (some ([0, 17], (some [])))⟩ ::
       R_o0))
   (R_c0))
  (R_c19))) (St.mk s o) Q =
 (demand (lenV (looko ([].map fun n => (n, o n))) (s 0)) (fun x1 =>
demand (binV BinOp.eql x1 (V.d (.int .i64 0))) (fun x2 =>
opsB C I R_o0 (St.mk (look [(0, (s 0)), (17, x2)]) (looko ([].map fun n => (n, o n)))) (fun st => (seqK (fun st => wpB C I R_c0 st (seqK (fun st => wpB C I R_c19 st Q) Q)) (seqK (fun st => wpB C I R_c19 st Q) Q)) .normal (St.trim st [0, 21] (some [])))))) := rfl
@[instance] theorem g_law08_TreeLeft_code_u : UnfAt (wpB C I g_law08_TreeLeft.code (St.mk s o) Q) g_law08_TreeLeft_code_sh := Unf.of _

end Pay
