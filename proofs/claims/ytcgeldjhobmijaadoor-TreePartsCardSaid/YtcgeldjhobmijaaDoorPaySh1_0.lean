/- What the code of the functions comes to, without slots: an equation for each part; no condition. -/
import Derived.Test.YtcgeldjhobmijaaDoorPayBb0
import Derived.Test.YtcgeldjhobmijaaDoorPayCode1_0
set_option maxRecDepth 20000
set_option maxHeartbeats 400000
set_option linter.unusedVariables false
namespace Pay
open Go
variable {R_c0 R_c1 R_c2 R_c3 R_c4 R_c5 R_c6 R_c7 R_c8 R_c9 R_c10 R_c11 R_c12 R_c13 R_c14 R_c15 R_c16 R_c17 R_c18 R_c19 R_c20 R_c21 R_l0 R_l1 R_l2 R_l3 : ACode} {R_o0 R_o1 R_o2 R_o3 R_o4 R_o5 : List AOper} {C : Ctx} {I : Nat → Prop} {s : Nat → V} {o : Nat → Option Ob} {K : St → Prop} {Q : Ex → St → Prop}
theorem g_law08_TreeParts_o1_sh : opsB C I [⟨some 38, .pick (.t 36) (.t 37) (.c (.d (.bool false))), [], [], none, none⟩,
     ⟨some 2, .mv (.t 38), [], [], none, none⟩] (St.mk s o) K =
 (demand (pickV (s 36) (s 37) (V.d (.bool false))) (fun x1 =>
K (St.mk (upd (upd s 38 x1) 2 x1) o))) := rfl
@[instance] theorem g_law08_TreeParts_o1_u : UnfAt (opsB C I g_law08_TreeParts.o1 (St.mk s o) K) g_law08_TreeParts_o1_sh := Unf.of _
theorem g_law08_TreeParts_o0_sh : opsB C I (⟨some 37, .call 143 [], [], [], (some (8, 36, true)), (some ([36, 37], (some [])))⟩ ::
     R_o1) (St.mk s o) K =
 (guardK (s 36) true
 (callK C I (St.mk (upd s 36 (V.d (D.bool true))) o) (some 37) 143 [] (fun r1 or1 =>
opsB C I R_o1 (St.mk (look [(36, (V.d (D.bool true))), (37, r1)]) (looko ([].map fun n => (n, or1 n)))) K))
 (opsB C I R_o1 (St.mk (look [(36, (V.d (D.bool false))), (37, (V.tup []))]) (looko ([].map fun n => (n, o n)))) K)
 (opsB C I R_o1 (St.mk (look [(36, (V.tup [])), (37, (V.tup []))]) (looko ([].map fun n => (n, o n)))) K)) := rfl
@[instance] theorem g_law08_TreeParts_o0_u : UnfAt (opsB C I g_law08_TreeParts.o0 (St.mk s o) K) g_law08_TreeParts_o0_sh := Unf.of _
theorem g_law08_TreeParts_c0_sh : wpB C I (.ret) (St.mk s o) Q =
 (Q .ret (St.mk s o)) := rfl
@[instance] theorem g_law08_TreeParts_c0_u : UnfAt (wpB C I g_law08_TreeParts.c0 (St.mk s o) Q) g_law08_TreeParts_c0_sh := Unf.of _
theorem g_law08_TreeParts_c1_sh : wpB C I (.cond (.t 58) (.region [3, 6, 7, 9, 44, 45, 46] (some [3, 42]) none
    [⟨some 70, .faddr 3 (.t 8), [], [], none, none⟩,
     ⟨some 71, .load none (.t 70), [], [], none, none⟩,
     ⟨some 72, .faddr 4 (.t 8), [], [], none, none⟩,
     ⟨some 73, .load none (.t 72), [], [], none, none⟩,
     ⟨some 74, .bsl none 1 [] 2 [(0, (.t 71)), (1, (.t 73))], [], [], none, none⟩,
     ⟨some 9, .mv (.t 74), [], [], none, none⟩])
 (.seq (.region [3, 6, 7, 8, 9, 44, 45, 46, 75] (some [3, 8, 42]) none
     [⟨some 76, .bin .eql (.t 52) (.c (.d (.str [105, 102]))), [], [], none, none⟩,
      ⟨some 75, .mv (.t 76), [], [], none, none⟩])
  (.cond (.t 75) (.region [3, 6, 7, 9, 44, 45, 46] (some [3, 42]) none
      [⟨some 77, .faddr 3 (.t 8), [], [], none, none⟩,
       ⟨some 78, .load none (.t 77), [], [], none, none⟩,
       ⟨some 79, .faddr 4 (.t 8), [], [], none, none⟩,
       ⟨some 80, .load none (.t 79), [], [], none, none⟩,
       ⟨some 81, .faddr 5 (.t 8), [], [], none, none⟩,
       ⟨some 82, .load none (.t 81), [], [], none, none⟩,
       ⟨some 83, .bsl none 1 [] 3 [(0, (.t 78)), (1, (.t 80)), (2, (.t 82))], [], [], none, none⟩,
       ⟨some 9, .mv (.t 83), [], [], none, none⟩])
   (.skip)))) (St.mk s o) Q =
 (condK (s 58)
 (demand (faddrV 3 (s 8)) (fun x1 =>
demand (loadV o none x1) (fun x2 =>
demand (faddrV 4 (s 8)) (fun x3 =>
demand (loadV o none x3) (fun x4 =>
lstK (partsN 1 [x2, x4]) (fun es5 =>
Q .normal (St.mk (look [(3, (s 3)), (6, (s 6)), (7, (s 7)), (9, (V.d (D.sl es5))), (44, (s 44)), (45, (s 45)), (46, (s 46))]) (looko ([3, 42].map fun n => (n, o n))))))))))
 (demand (binV BinOp.eql (s 52) (V.d (.str [105, 102]))) (fun x6 =>
condK x6
 (demand (faddrV 3 (s 8)) (fun x7 =>
demand (loadV (looko ([3, 8, 42].map fun n => (n, o n))) none x7) (fun x8 =>
demand (faddrV 4 (s 8)) (fun x9 =>
demand (loadV (looko ([3, 8, 42].map fun n => (n, o n))) none x9) (fun x10 =>
demand (faddrV 5 (s 8)) (fun x11 =>
demand (loadV (looko ([3, 8, 42].map fun n => (n, o n))) none x11) (fun x12 =>
lstK (partsN 1 [x8, x10, x12]) (fun es13 =>
Q .normal (St.mk (look [(3, (s 3)), (6, (s 6)), (7, (s 7)), (9, (V.d (D.sl es13))), (44, (s 44)), (45, (s 45)), (46, (s 46))]) (looko ([3, 42].map fun n => (n, o n))))))))))))
 (Q .normal (St.mk (look [(3, (s 3)), (6, (s 6)), (7, (s 7)), (8, (s 8)), (9, (s 9)), (44, (s 44)), (45, (s 45)), (46, (s 46)), (75, x6)]) (looko ([3, 8, 42].map fun n => (n, o n)))))))) := rfl
@[instance] theorem g_law08_TreeParts_c1_u : UnfAt (wpB C I g_law08_TreeParts.c1 (St.mk s o) Q) g_law08_TreeParts_c1_sh := Unf.of _
theorem g_law08_TreeParts_o3_sh : opsB C I [⟨some 96, .pick (.t 92) (.c (.d (.bool true))) (.t 95), [], [], none, none⟩] (St.mk s o) K =
 (demand (pickV (s 92) (V.d (.bool true)) (s 95)) (fun x1 =>
K (St.mk (upd s 96 x1) o))) := rfl
@[instance] theorem g_law08_TreeParts_o3_u : UnfAt (opsB C I g_law08_TreeParts.o3 (St.mk s o) K) g_law08_TreeParts_o3_sh := Unf.of _
theorem g_law08_TreeParts_o2_sh : opsB C I (⟨some 93, .mv (.t 11), [], [], (some (2, 92, false)), none⟩ ::
     ⟨some 94, .mv (.t 7), [], [], (some (2, 92, false)), none⟩ ::
     ⟨some 95, .bin .geq (.t 93) (.t 94), [], [], (some (2, 92, false)), (some ([3, 6, 7, 11, 44, 45, 46, 84, 85, 86, 92, 95], (some [3, 42])))⟩ ::
     R_o3) (St.mk s o) K =
 (guardK (s 92) false
 (demand (binV BinOp.geq (s 11) (s 7)) (fun x1 =>
opsB C I R_o3 (St.mk (look [(3, (s 3)), (6, (s 6)), (7, (s 7)), (11, (s 11)), (44, (s 44)), (45, (s 45)), (46, (s 46)), (84, (s 84)), (85, (s 85)), (86, (s 86)), (92, (V.d (D.bool false))), (95, x1)]) (looko ([3, 42].map fun n => (n, o n)))) K))
 (opsB C I R_o3 (St.mk (look [(3, (s 3)), (6, (s 6)), (7, (s 7)), (11, (s 11)), (44, (s 44)), (45, (s 45)), (46, (s 46)), (84, (s 84)), (85, (s 85)), (86, (s 86)), (92, (V.d (D.bool true))), (95, (V.tup []))]) (looko ([3, 42].map fun n => (n, o n)))) K)
 (opsB C I R_o3 (St.mk (look [(3, (s 3)), (6, (s 6)), (7, (s 7)), (11, (s 11)), (44, (s 44)), (45, (s 45)), (46, (s 46)), (84, (s 84)), (85, (s 85)), (86, (s 86)), (92, (V.tup [])), (95, (V.tup []))]) (looko ([3, 42].map fun n => (n, o n)))) K)) := rfl
@[instance] theorem g_law08_TreeParts_o2_u : UnfAt (opsB C I g_law08_TreeParts.o2 (St.mk s o) K) g_law08_TreeParts_o2_sh := Unf.of _
theorem g_law08_TreeParts_c2_sh : wpB C I (.cond (.t 96) (.seq (.region [2] (some []) none
     [⟨some 2, .mv (.c (.d (.bool false))), [], [], none, none⟩])
  (.ret))
 (.skip)) (St.mk s o) Q =
 (condK (s 96)
 (Q .ret (St.mk (look [(2, (V.d (.bool false)))]) (looko ([].map fun n => (n, o n)))))
 (Q .normal (St.mk s o))) := rfl
@[instance] theorem g_law08_TreeParts_c2_u : UnfAt (wpB C I g_law08_TreeParts.c2 (St.mk s o) Q) g_law08_TreeParts_c2_sh := Unf.of _
theorem g_law08_TreeParts_c3_sh : wpB C I (.region [3, 6, 7, 44, 45, 46, 84, 85, 86] (some [3, 42]) none
   [⟨some 97, .mv (.t 6), [], [], none, none⟩,
    ⟨some 98, .mv (.t 11), [], [], none, none⟩,
    ⟨some 99, .iaddr 1 (.t 97) (.t 98), [], [], none, none⟩,
    ⟨some 100, .load none (.t 99), [], [], none, none⟩,
    ⟨some 101, .bin .add (.t 100) (.c (.d (.int .i64 1))), [], [], none, none⟩,
    ⟨some 102, .iaddr 1 (.t 97) (.t 98), [], [], none, none⟩,
    ⟨none, .store 1 (.t 102) (.t 101), [], [], none, none⟩]) (St.mk s o) Q =
 (demand (iaddrV o 1 (s 6) (s 11)) (fun x1 =>
demand (loadV o none x1) (fun x2 =>
demand (binV BinOp.add x2 (V.d (.int .i64 1))) (fun x3 =>
demand (iaddrV o 1 (s 6) (s 11)) (fun x4 =>
storeK x4 (cellsV x3) 1 o (fun m5 ob6 =>
Q .normal (St.mk (look [(3, (s 3)), (6, (s 6)), (7, (s 7)), (44, (s 44)), (45, (s 45)), (46, (s 46)), (84, (s 84)), (85, (s 85)), (86, (s 86))]) (looko ([3, 42].map fun n => (n, (upd o m5 (some ob6)) n)))))))))) := rfl
@[instance] theorem g_law08_TreeParts_c3_u : UnfAt (wpB C I g_law08_TreeParts.c3 (St.mk s o) Q) g_law08_TreeParts_c3_sh := Unf.of _
theorem g_law08_TreeParts_c4_sh : wpB C I (.region [3, 6, 7, 44, 45, 46, 84, 85, 86] (some [3, 42]) none
   [⟨some 103, .bin .add (.t 86) (.c (.d (.int .i64 1))), [], [], none, none⟩,
    ⟨some 86, .mv (.t 103), [], [], none, none⟩]) (St.mk s o) Q =
 (demand (binV BinOp.add (s 86) (V.d (.int .i64 1))) (fun x1 =>
Q .normal (St.mk (look [(3, (s 3)), (6, (s 6)), (7, (s 7)), (44, (s 44)), (45, (s 45)), (46, (s 46)), (84, (s 84)), (85, (s 85)), (86, x1)]) (looko ([3, 42].map fun n => (n, o n)))))) := rfl
@[instance] theorem g_law08_TreeParts_c4_u : UnfAt (wpB C I g_law08_TreeParts.c4 (St.mk s o) Q) g_law08_TreeParts_c4_sh := Unf.of _
theorem g_law08_TreeParts_l1_sh (hL : R_l1 = .loop [3, 6, 7, 44, 45, 46, 84, 85, 86] (some [3, 42]) (.seq (.region [3, 6, 7, 44, 45, 46, 84, 85, 86, 87] (some [3, 42]) none
     [⟨some 87, .bin .lss (.t 86) (.t 85), [], [], none, none⟩])
  (.seq (.cond (.t 87) (.skip)
    (.exit 3))
   (.seq (.block 4 [3, 6, 7, 44, 45, 46, 84, 85, 86] (some [3, 42]) (.seq (.region [3, 6, 7, 11, 44, 45, 46, 84, 85, 86] (some [3, 42]) none
         [⟨some 88, .iaddr 1 (.t 84) (.t 86), [], [], none, none⟩,
          ⟨some 89, .load none (.t 88), [], [], none, none⟩,
          ⟨some 11, .mv (.t 89), [], [], none, none⟩])
      (.seq (.seq (.region [3, 6, 7, 11, 44, 45, 46, 84, 85, 86, 96] (some [3, 42]) none
           (⟨some 90, .mv (.t 11), [], [], none, none⟩ ::
            ⟨some 91, .bin .lss (.t 90) (.c (.d (.int .i64 0))), [], [], none, none⟩ ::
            ⟨some 92, .mv (.t 91), [], [], none, (some ([3, 6, 7, 11, 44, 45, 46, 84, 85, 86, 92], (some [3, 42])))⟩ ::
            R_o2))
        (R_c2))
       (R_c3))))
    (R_c4)))))
 (h : demand (binV BinOp.lss (s 86) (s 85)) (fun x1 =>
condK x1
 (demand (iaddrV (looko ([3, 42].map fun n => (n, o n))) 1 (s 84) (s 86)) (fun x2 =>
demand (loadV (looko ([3, 42].map fun n => (n, o n))) none x2) (fun x3 =>
demand (binV BinOp.lss x3 (V.d (.int .i64 0))) (fun x4 =>
opsB C I R_o2 (St.mk (look [(3, (s 3)), (6, (s 6)), (7, (s 7)), (11, x3), (44, (s 44)), (45, (s 45)), (46, (s 46)), (84, (s 84)), (85, (s 85)), (86, (s 86)), (92, x4)]) (looko ([3, 42].map fun n => (n, o n)))) (fun st => (seqK (fun st => wpB C I R_c2 st (seqK (fun st => wpB C I R_c3 st (blockK 4 [3, 6, 7, 44, 45, 46, 84, 85, 86] (some [3, 42]) (seqK (fun st => wpB C I R_c4 st (seqK (fun s => wpB C I R_l1 s Q) Q)) (seqK (fun s => wpB C I R_l1 s Q) Q)))) (blockK 4 [3, 6, 7, 44, 45, 46, 84, 85, 86] (some [3, 42]) (seqK (fun st => wpB C I R_c4 st (seqK (fun s => wpB C I R_l1 s Q) Q)) (seqK (fun s => wpB C I R_l1 s Q) Q))))) (seqK (fun st => wpB C I R_c3 st (blockK 4 [3, 6, 7, 44, 45, 46, 84, 85, 86] (some [3, 42]) (seqK (fun st => wpB C I R_c4 st (seqK (fun s => wpB C I R_l1 s Q) Q)) (seqK (fun s => wpB C I R_l1 s Q) Q)))) (blockK 4 [3, 6, 7, 44, 45, 46, 84, 85, 86] (some [3, 42]) (seqK (fun st => wpB C I R_c4 st (seqK (fun s => wpB C I R_l1 s Q) Q)) (seqK (fun s => wpB C I R_l1 s Q) Q))))) .normal (St.trim st [3, 6, 7, 11, 44, 45, 46, 84, 85, 86, 96] (some [3, 42])))))))
 (Q (.exit 3) (St.mk (look [(3, (s 3)), (6, (s 6)), (7, (s 7)), (44, (s 44)), (45, (s 45)), (46, (s 46)), (84, (s 84)), (85, (s 85)), (86, (s 86)), (87, x1)]) (looko ([3, 42].map fun n => (n, o n))))))) : wpB C I R_l1 (St.mk s o) Q := w_loopC hL h
theorem g_law08_TreeParts_c5_sh : wpB C I (.seq (.region [3, 6, 7, 44, 45, 46, 84, 85, 86] (some [3, 42]) none
    [⟨some 84, .mv (.t 9), [], [], none, none⟩,
     ⟨some 85, .len (.t 84), [], [], none, none⟩,
     ⟨some 86, .mv (.c (.d (.int .i64 0))), [], [], none, none⟩])
 (.block 3 [3, 6, 44, 45, 46] (some [3, 42]) (R_l1))) (St.mk s o) Q =
 (demand (lenV o (s 9)) (fun x1 =>
wpB C I R_l1 (St.mk (look [(3, (s 3)), (6, (s 6)), (7, (s 7)), (44, (s 44)), (45, (s 45)), (46, (s 46)), (84, (s 9)), (85, x1), (86, (V.d (.int .i64 0)))]) (looko ([3, 42].map fun n => (n, o n)))) (blockK 3 [3, 6, 44, 45, 46] (some [3, 42]) Q))) := rfl
@[instance] theorem g_law08_TreeParts_c5_u : UnfAt (wpB C I g_law08_TreeParts.c5 (St.mk s o) Q) g_law08_TreeParts_c5_sh := Unf.of _
theorem g_law08_TreeParts_c6_sh : wpB C I (.seq (.region [3, 6, 7, 8, 9, 44, 45, 46] (some [3, 8, 42]) none
    [⟨some 9, .mv (.c (.cap0)), [], [], none, none⟩])
 (.seq (.seq (.region [3, 6, 7, 8, 9, 44, 45, 46, 52] (some [3, 8, 42]) none
      [⟨some 51, .faddr 0 (.t 8), [], [], none, none⟩,
       ⟨some 52, .load none (.t 51), [], [], none, none⟩])
   (.block 2 [3, 6, 7, 9, 44, 45, 46] (some [3, 42]) (.seq (.region [3, 6, 7, 8, 9, 44, 45, 46, 52, 53] (some [3, 8, 42]) none
        [⟨some 54, .bin .eql (.t 52) (.c (.d (.str [110, 101, 103]))), [], [], none, none⟩,
         ⟨some 53, .mv (.t 54), [], [], none, none⟩])
     (.cond (.t 53) (.region [3, 6, 7, 9, 44, 45, 46] (some [3, 42]) none
         [⟨some 55, .faddr 3 (.t 8), [], [], none, none⟩,
          ⟨some 56, .load none (.t 55), [], [], none, none⟩,
          ⟨some 57, .bsl none 1 [] 1 [(0, (.t 56))], [], [], none, none⟩,
          ⟨some 9, .mv (.t 57), [], [], none, none⟩])
      (.seq (.seq (.region [3, 6, 7, 8, 9, 44, 45, 46, 52, 58] (some [3, 8, 42]) none
           [⟨some 59, .bin .eql (.t 52) (.c (.d (.str [43]))), [], [], none, none⟩,
            ⟨some 58, .mv (.t 59), [], [], none, none⟩])
        (.cond (.t 58) (.skip)
         (.seq (.region [3, 6, 7, 8, 9, 44, 45, 46, 52, 58] (some [3, 8, 42]) none
             [⟨some 60, .bin .eql (.t 52) (.c (.d (.str [45]))), [], [], none, none⟩,
              ⟨some 58, .mv (.t 60), [], [], none, none⟩])
          (.cond (.t 58) (.skip)
           (.seq (.region [3, 6, 7, 8, 9, 44, 45, 46, 52, 58] (some [3, 8, 42]) none
               [⟨some 61, .bin .eql (.t 52) (.c (.d (.str [42]))), [], [], none, none⟩,
                ⟨some 58, .mv (.t 61), [], [], none, none⟩])
            (.cond (.t 58) (.skip)
             (.seq (.region [3, 6, 7, 8, 9, 44, 45, 46, 52, 58] (some [3, 8, 42]) none
                 [⟨some 62, .bin .eql (.t 52) (.c (.d (.str [60]))), [], [], none, none⟩,
                  ⟨some 58, .mv (.t 62), [], [], none, none⟩])
              (.cond (.t 58) (.skip)
               (.seq (.region [3, 6, 7, 8, 9, 44, 45, 46, 52, 58] (some [3, 8, 42]) none
                   [⟨some 63, .bin .eql (.t 52) (.c (.d (.str [60, 61]))), [], [], none, none⟩,
                    ⟨some 58, .mv (.t 63), [], [], none, none⟩])
                (.cond (.t 58) (.skip)
                 (.seq (.region [3, 6, 7, 8, 9, 44, 45, 46, 52, 58] (some [3, 8, 42]) none
                     [⟨some 64, .bin .eql (.t 52) (.c (.d (.str [61]))), [], [], none, none⟩,
                      ⟨some 58, .mv (.t 64), [], [], none, none⟩])
                  (.cond (.t 58) (.skip)
                   (.seq (.region [3, 6, 7, 8, 9, 44, 45, 46, 52, 58] (some [3, 8, 42]) none
                       [⟨some 65, .bin .eql (.t 52) (.c (.d (.str [60, 62]))), [], [], none, none⟩,
                        ⟨some 58, .mv (.t 65), [], [], none, none⟩])
                    (.cond (.t 58) (.skip)
                     (.seq (.region [3, 6, 7, 8, 9, 44, 45, 46, 52, 58] (some [3, 8, 42]) none
                         [⟨some 66, .bin .eql (.t 52) (.c (.d (.str [62]))), [], [], none, none⟩,
                          ⟨some 58, .mv (.t 66), [], [], none, none⟩])
                      (.cond (.t 58) (.skip)
                       (.seq (.region [3, 6, 7, 8, 9, 44, 45, 46, 52, 58] (some [3, 8, 42]) none
                           [⟨some 67, .bin .eql (.t 52) (.c (.d (.str [62, 61]))), [], [], none, none⟩,
                            ⟨some 58, .mv (.t 67), [], [], none, none⟩])
                        (.cond (.t 58) (.skip)
                         (.seq (.region [3, 6, 7, 8, 9, 44, 45, 46, 52, 58] (some [3, 8, 42]) none
                             [⟨some 68, .bin .eql (.t 52) (.c (.d (.str [109, 105, 110]))), [], [], none, none⟩,
                              ⟨some 58, .mv (.t 68), [], [], none, none⟩])
                          (.cond (.t 58) (.skip)
                           (.region [3, 6, 7, 8, 9, 44, 45, 46, 52, 58] (some [3, 8, 42]) none
                              [⟨some 69, .bin .eql (.t 52) (.c (.d (.str [109, 97, 120]))), [], [], none, none⟩,
                               ⟨some 58, .mv (.t 69), [], [], none, none⟩])))))))))))))))))))))
       (R_c1))))))
  (R_c5))) (St.mk s o) Q =
 (demand (faddrV 0 (s 8)) (fun x1 =>
demand (loadV (looko ([3, 8, 42].map fun n => (n, o n))) none x1) (fun x2 =>
demand (binV BinOp.eql x2 (V.d (.str [110, 101, 103]))) (fun x3 =>
condK x3
 (demand (faddrV 3 (s 8)) (fun x4 =>
demand (loadV (looko ([3, 8, 42].map fun n => (n, o n))) none x4) (fun x5 =>
lstK (partsN 1 [x5]) (fun es6 =>
wpB C I R_c5 (St.mk (look [(3, (s 3)), (6, (s 6)), (7, (s 7)), (9, (V.d (D.sl es6))), (44, (s 44)), (45, (s 45)), (46, (s 46))]) (looko ([3, 42].map fun n => (n, o n)))) Q))))
 (demand (binV BinOp.eql x2 (V.d (.str [43]))) (fun x7 =>
condK x7
 (wpB C I R_c1 (St.mk (look [(3, (s 3)), (6, (s 6)), (7, (s 7)), (8, (s 8)), (9, (V.cap0)), (44, (s 44)), (45, (s 45)), (46, (s 46)), (52, x2), (58, x7)]) (looko ([3, 8, 42].map fun n => (n, o n)))) (blockK 2 [3, 6, 7, 9, 44, 45, 46] (some [3, 42]) (seqK (fun st => wpB C I R_c5 st Q) Q)))
 (demand (binV BinOp.eql x2 (V.d (.str [45]))) (fun x8 =>
condK x8
 (wpB C I R_c1 (St.mk (look [(3, (s 3)), (6, (s 6)), (7, (s 7)), (8, (s 8)), (9, (V.cap0)), (44, (s 44)), (45, (s 45)), (46, (s 46)), (52, x2), (58, x8)]) (looko ([3, 8, 42].map fun n => (n, o n)))) (blockK 2 [3, 6, 7, 9, 44, 45, 46] (some [3, 42]) (seqK (fun st => wpB C I R_c5 st Q) Q)))
 (demand (binV BinOp.eql x2 (V.d (.str [42]))) (fun x9 =>
condK x9
 (wpB C I R_c1 (St.mk (look [(3, (s 3)), (6, (s 6)), (7, (s 7)), (8, (s 8)), (9, (V.cap0)), (44, (s 44)), (45, (s 45)), (46, (s 46)), (52, x2), (58, x9)]) (looko ([3, 8, 42].map fun n => (n, o n)))) (blockK 2 [3, 6, 7, 9, 44, 45, 46] (some [3, 42]) (seqK (fun st => wpB C I R_c5 st Q) Q)))
 (demand (binV BinOp.eql x2 (V.d (.str [60]))) (fun x10 =>
condK x10
 (wpB C I R_c1 (St.mk (look [(3, (s 3)), (6, (s 6)), (7, (s 7)), (8, (s 8)), (9, (V.cap0)), (44, (s 44)), (45, (s 45)), (46, (s 46)), (52, x2), (58, x10)]) (looko ([3, 8, 42].map fun n => (n, o n)))) (blockK 2 [3, 6, 7, 9, 44, 45, 46] (some [3, 42]) (seqK (fun st => wpB C I R_c5 st Q) Q)))
 (demand (binV BinOp.eql x2 (V.d (.str [60, 61]))) (fun x11 =>
condK x11
 (wpB C I R_c1 (St.mk (look [(3, (s 3)), (6, (s 6)), (7, (s 7)), (8, (s 8)), (9, (V.cap0)), (44, (s 44)), (45, (s 45)), (46, (s 46)), (52, x2), (58, x11)]) (looko ([3, 8, 42].map fun n => (n, o n)))) (blockK 2 [3, 6, 7, 9, 44, 45, 46] (some [3, 42]) (seqK (fun st => wpB C I R_c5 st Q) Q)))
 (demand (binV BinOp.eql x2 (V.d (.str [61]))) (fun x12 =>
condK x12
 (wpB C I R_c1 (St.mk (look [(3, (s 3)), (6, (s 6)), (7, (s 7)), (8, (s 8)), (9, (V.cap0)), (44, (s 44)), (45, (s 45)), (46, (s 46)), (52, x2), (58, x12)]) (looko ([3, 8, 42].map fun n => (n, o n)))) (blockK 2 [3, 6, 7, 9, 44, 45, 46] (some [3, 42]) (seqK (fun st => wpB C I R_c5 st Q) Q)))
 (demand (binV BinOp.eql x2 (V.d (.str [60, 62]))) (fun x13 =>
condK x13
 (wpB C I R_c1 (St.mk (look [(3, (s 3)), (6, (s 6)), (7, (s 7)), (8, (s 8)), (9, (V.cap0)), (44, (s 44)), (45, (s 45)), (46, (s 46)), (52, x2), (58, x13)]) (looko ([3, 8, 42].map fun n => (n, o n)))) (blockK 2 [3, 6, 7, 9, 44, 45, 46] (some [3, 42]) (seqK (fun st => wpB C I R_c5 st Q) Q)))
 (demand (binV BinOp.eql x2 (V.d (.str [62]))) (fun x14 =>
condK x14
 (wpB C I R_c1 (St.mk (look [(3, (s 3)), (6, (s 6)), (7, (s 7)), (8, (s 8)), (9, (V.cap0)), (44, (s 44)), (45, (s 45)), (46, (s 46)), (52, x2), (58, x14)]) (looko ([3, 8, 42].map fun n => (n, o n)))) (blockK 2 [3, 6, 7, 9, 44, 45, 46] (some [3, 42]) (seqK (fun st => wpB C I R_c5 st Q) Q)))
 (demand (binV BinOp.eql x2 (V.d (.str [62, 61]))) (fun x15 =>
condK x15
 (wpB C I R_c1 (St.mk (look [(3, (s 3)), (6, (s 6)), (7, (s 7)), (8, (s 8)), (9, (V.cap0)), (44, (s 44)), (45, (s 45)), (46, (s 46)), (52, x2), (58, x15)]) (looko ([3, 8, 42].map fun n => (n, o n)))) (blockK 2 [3, 6, 7, 9, 44, 45, 46] (some [3, 42]) (seqK (fun st => wpB C I R_c5 st Q) Q)))
 (demand (binV BinOp.eql x2 (V.d (.str [109, 105, 110]))) (fun x16 =>
condK x16
 (wpB C I R_c1 (St.mk (look [(3, (s 3)), (6, (s 6)), (7, (s 7)), (8, (s 8)), (9, (V.cap0)), (44, (s 44)), (45, (s 45)), (46, (s 46)), (52, x2), (58, x16)]) (looko ([3, 8, 42].map fun n => (n, o n)))) (blockK 2 [3, 6, 7, 9, 44, 45, 46] (some [3, 42]) (seqK (fun st => wpB C I R_c5 st Q) Q)))
 (demand (binV BinOp.eql x2 (V.d (.str [109, 97, 120]))) (fun x17 =>
wpB C I R_c1 (St.mk (look [(3, (s 3)), (6, (s 6)), (7, (s 7)), (8, (s 8)), (9, (V.cap0)), (44, (s 44)), (45, (s 45)), (46, (s 46)), (52, x2), (58, x17)]) (looko ([3, 8, 42].map fun n => (n, o n)))) (blockK 2 [3, 6, 7, 9, 44, 45, 46] (some [3, 42]) (seqK (fun st => wpB C I R_c5 st Q) Q)))))))))))))))))))))))))))) := rfl
@[instance] theorem g_law08_TreeParts_c6_u : UnfAt (wpB C I g_law08_TreeParts.c6 (St.mk s o) Q) g_law08_TreeParts_c6_sh := Unf.of _
theorem g_law08_TreeParts_c7_sh : wpB C I (.region [3, 6, 44, 45, 46] (some [3, 42]) none
   [⟨some 104, .bin .add (.t 46) (.c (.d (.int .i64 1))), [], [], none, none⟩,
    ⟨some 46, .mv (.t 104), [], [], none, none⟩]) (St.mk s o) Q =
 (demand (binV BinOp.add (s 46) (V.d (.int .i64 1))) (fun x1 =>
Q .normal (St.mk (look [(3, (s 3)), (6, (s 6)), (44, (s 44)), (45, (s 45)), (46, x1)]) (looko ([3, 42].map fun n => (n, o n)))))) := rfl
@[instance] theorem g_law08_TreeParts_c7_u : UnfAt (wpB C I g_law08_TreeParts.c7 (St.mk s o) Q) g_law08_TreeParts_c7_sh := Unf.of _
theorem g_law08_TreeParts_l0_sh (hL : R_l0 = .loop [3, 6, 44, 45, 46] (some [3, 42]) (.seq (.region [3, 6, 44, 45, 46, 47] (some [3, 42]) none
     [⟨some 47, .bin .lss (.t 46) (.t 45), [], [], none, none⟩])
  (.seq (.cond (.t 47) (.skip)
    (.exit 0))
   (.seq (.block 1 [3, 6, 44, 45, 46] (some [3, 42]) (.seq (.region [3, 6, 7, 8, 44, 45, 46] (some [3, 8, 42]) none
         [⟨some 48, .mv (.t 46), [], [], none, none⟩,
          ⟨some 49, .iaddr 6 (.t 44) (.t 46), [], [], none, none⟩,
          ⟨some 50, .load (some 6) (.t 49), [], [], none, none⟩,
          ⟨some 8, .alloc 8 [.d (.str []), .d (.str []), .d (.int .i64 0), .d (.int .i64 0), .d (.int .i64 0), .d (.int .i64 0)], [], [], none, none⟩,
          ⟨some 7, .mv (.t 48), [], [], none, none⟩,
          ⟨none, .store 6 (.t 8) (.t 50), [], [], none, none⟩])
      (R_c6)))
    (R_c7)))))
 (h : demand (binV BinOp.lss (s 46) (s 45)) (fun x1 =>
condK x1
 (demand (iaddrV (looko ([3, 42].map fun n => (n, o n))) 6 (s 44) (s 46)) (fun x2 =>
demand (loadV (looko ([3, 42].map fun n => (n, o n))) (some 6) x2) (fun x3 =>
(¬ I 8 ∧ Fresh (St.mk (upd (upd (upd (look [(3, (s 3)), (6, (s 6)), (44, (s 44)), (45, (s 45)), (46, (s 46)), (47, x1)]) 48 (s 46)) 49 x2) 50 x3) (looko ([3, 42].map fun n => (n, o n)))) 8 (some 8) ∧ V.refsL 8 [V.d (.str []), V.d (.str []), V.d (.int .i64 0), V.d (.int .i64 0), V.d (.int .i64 0), V.d (.int .i64 0)] = false ∧
storeK (V.ptr 8 0) (cellsV x3) 6 (upd (looko ([3, 42].map fun n => (n, o n))) 8 (some (Ob.box [V.d (.str []), V.d (.str []), V.d (.int .i64 0), V.d (.int .i64 0), V.d (.int .i64 0), V.d (.int .i64 0)]))) (fun m4 ob5 =>
wpB C I R_c6 (St.mk (look [(3, (s 3)), (6, (s 6)), (7, (s 46)), (8, (V.ptr 8 0)), (44, (s 44)), (45, (s 45)), (46, (s 46))]) (looko ([3, 8, 42].map fun n => (n, (upd (upd (looko ([3, 42].map fun n => (n, o n))) 8 (some (Ob.box [V.d (.str []), V.d (.str []), V.d (.int .i64 0), V.d (.int .i64 0), V.d (.int .i64 0), V.d (.int .i64 0)]))) m4 (some ob5)) n)))) (blockK 1 [3, 6, 44, 45, 46] (some [3, 42]) (seqK (fun st => wpB C I R_c7 st (seqK (fun s => wpB C I R_l0 s Q) Q)) (seqK (fun s => wpB C I R_l0 s Q) Q))))))))
 (Q (.exit 0) (St.mk (look [(3, (s 3)), (6, (s 6)), (44, (s 44)), (45, (s 45)), (46, (s 46)), (47, x1)]) (looko ([3, 42].map fun n => (n, o n))))))) : wpB C I R_l0 (St.mk s o) Q := w_loopC hL h
theorem g_law08_TreeParts_c8_sh : wpB C I (.block 0 [3, 6] (some [3, 42]) (R_l0)) (St.mk s o) Q =
 (wpB C I R_l0 (St.mk s o) (blockK 0 [3, 6] (some [3, 42]) Q)) := rfl
@[instance] theorem g_law08_TreeParts_c8_u : UnfAt (wpB C I g_law08_TreeParts.c8 (St.mk s o) Q) g_law08_TreeParts_c8_sh := Unf.of _
theorem g_law08_TreeParts_o5_sh : opsB C I [⟨some 121, .pick (.t 115) (.c (.d (.bool true))) (.t 120), [], [], none, none⟩] (St.mk s o) K =
 (demand (pickV (s 115) (V.d (.bool true)) (s 120)) (fun x1 =>
K (St.mk (upd s 121 x1) o))) := rfl
@[instance] theorem g_law08_TreeParts_o5_u : UnfAt (opsB C I g_law08_TreeParts.o5 (St.mk s o) K) g_law08_TreeParts_o5_sh := Unf.of _
theorem g_law08_TreeParts_o4_sh : opsB C I (⟨some 116, .faddr 2 (.t 13), [], [], (some (3, 115, false)), none⟩ ::
     ⟨some 117, .load none (.t 116), [], [], (some (3, 115, false)), none⟩ ::
     ⟨some 118, .mv (.t 6), [], [], (some (3, 115, false)), none⟩ ::
     ⟨some 119, .len (.t 118), [], [], (some (3, 115, false)), none⟩ ::
     ⟨some 120, .bin .geq (.t 117) (.t 119), [], [], (some (3, 115, false)), (some ([6, 13, 106, 107, 108, 115, 120], (some [13, 42])))⟩ ::
     R_o5) (St.mk s o) K =
 (guardK (s 115) false
 (demand (faddrV 2 (s 13)) (fun x1 =>
demand (loadV o none x1) (fun x2 =>
demand (lenV o (s 6)) (fun x3 =>
demand (binV BinOp.geq x2 x3) (fun x4 =>
opsB C I R_o5 (St.mk (look [(6, (s 6)), (13, (s 13)), (106, (s 106)), (107, (s 107)), (108, (s 108)), (115, (V.d (D.bool false))), (120, x4)]) (looko ([13, 42].map fun n => (n, o n)))) K)))))
 (opsB C I R_o5 (St.mk (look [(6, (s 6)), (13, (s 13)), (106, (s 106)), (107, (s 107)), (108, (s 108)), (115, (V.d (D.bool true))), (120, (V.tup []))]) (looko ([13, 42].map fun n => (n, o n)))) K)
 (opsB C I R_o5 (St.mk (look [(6, (s 6)), (13, (s 13)), (106, (s 106)), (107, (s 107)), (108, (s 108)), (115, (V.tup [])), (120, (V.tup []))]) (looko ([13, 42].map fun n => (n, o n)))) K)) := rfl
@[instance] theorem g_law08_TreeParts_o4_u : UnfAt (opsB C I g_law08_TreeParts.o4 (St.mk s o) K) g_law08_TreeParts_o4_sh := Unf.of _
theorem g_law08_TreeParts_c9_sh : wpB C I (.cond (.t 121) (.seq (.region [2] (some []) none
     [⟨some 2, .mv (.c (.d (.bool false))), [], [], none, none⟩])
  (.ret))
 (.skip)) (St.mk s o) Q =
 (condK (s 121)
 (Q .ret (St.mk (look [(2, (V.d (.bool false)))]) (looko ([].map fun n => (n, o n)))))
 (Q .normal (St.mk s o))) := rfl
@[instance] theorem g_law08_TreeParts_c9_u : UnfAt (wpB C I g_law08_TreeParts.c9 (St.mk s o) Q) g_law08_TreeParts_c9_sh := Unf.of _
theorem g_law08_TreeParts_c10_sh : wpB C I (.region [6, 106, 107, 108] (some [42]) none
   [⟨some 122, .mv (.t 6), [], [], none, none⟩,
    ⟨some 123, .faddr 2 (.t 13), [], [], none, none⟩,
    ⟨some 124, .load none (.t 123), [], [], none, none⟩,
    ⟨some 125, .iaddr 1 (.t 122) (.t 124), [], [], none, none⟩,
    ⟨some 126, .load none (.t 125), [], [], none, none⟩,
    ⟨some 127, .bin .add (.t 126) (.c (.d (.int .i64 1))), [], [], none, none⟩,
    ⟨some 128, .iaddr 1 (.t 122) (.t 124), [], [], none, none⟩,
    ⟨none, .store 1 (.t 128) (.t 127), [], [], none, none⟩]) (St.mk s o) Q =
 (demand (faddrV 2 (s 13)) (fun x1 =>
demand (loadV o none x1) (fun x2 =>
demand (iaddrV o 1 (s 6) x2) (fun x3 =>
demand (loadV o none x3) (fun x4 =>
demand (binV BinOp.add x4 (V.d (.int .i64 1))) (fun x5 =>
demand (iaddrV o 1 (s 6) x2) (fun x6 =>
storeK x6 (cellsV x5) 1 o (fun m7 ob8 =>
Q .normal (St.mk (look [(6, (s 6)), (106, (s 106)), (107, (s 107)), (108, (s 108))]) (looko ([42].map fun n => (n, (upd o m7 (some ob8)) n)))))))))))) := rfl
@[instance] theorem g_law08_TreeParts_c10_u : UnfAt (wpB C I g_law08_TreeParts.c10 (St.mk s o) Q) g_law08_TreeParts_c10_sh := Unf.of _
theorem g_law08_TreeParts_c11_sh : wpB C I (.seq (.seq (.region [6, 13, 106, 107, 108, 121] (some [13, 42]) none
     (⟨some 112, .faddr 2 (.t 13), [], [], none, none⟩ ::
      ⟨some 113, .load none (.t 112), [], [], none, none⟩ ::
      ⟨some 114, .bin .lss (.t 113) (.c (.d (.int .i64 0))), [], [], none, none⟩ ::
      ⟨some 115, .mv (.t 114), [], [], none, (some ([6, 13, 106, 107, 108, 115], (some [13, 42])))⟩ ::
      R_o4))
  (R_c9))
 (R_c10)) (St.mk s o) Q =
 (demand (faddrV 2 (s 13)) (fun x1 =>
demand (loadV o none x1) (fun x2 =>
demand (binV BinOp.lss x2 (V.d (.int .i64 0))) (fun x3 =>
opsB C I R_o4 (St.mk (look [(6, (s 6)), (13, (s 13)), (106, (s 106)), (107, (s 107)), (108, (s 108)), (115, x3)]) (looko ([13, 42].map fun n => (n, o n)))) (fun st => (seqK (fun st => wpB C I R_c9 st (seqK (fun st => wpB C I R_c10 st Q) Q)) (seqK (fun st => wpB C I R_c10 st Q) Q)) .normal (St.trim st [6, 13, 106, 107, 108, 121] (some [13, 42]))))))) := rfl
@[instance] theorem g_law08_TreeParts_c11_u : UnfAt (wpB C I g_law08_TreeParts.c11 (St.mk s o) Q) g_law08_TreeParts_c11_sh := Unf.of _
theorem g_law08_TreeParts_c12_sh : wpB C I (.region [6, 106, 107, 108] (some [42]) none
   [⟨some 129, .bin .add (.t 108) (.c (.d (.int .i64 1))), [], [], none, none⟩,
    ⟨some 108, .mv (.t 129), [], [], none, none⟩]) (St.mk s o) Q =
 (demand (binV BinOp.add (s 108) (V.d (.int .i64 1))) (fun x1 =>
Q .normal (St.mk (look [(6, (s 6)), (106, (s 106)), (107, (s 107)), (108, x1)]) (looko ([42].map fun n => (n, o n)))))) := rfl
@[instance] theorem g_law08_TreeParts_c12_u : UnfAt (wpB C I g_law08_TreeParts.c12 (St.mk s o) Q) g_law08_TreeParts_c12_sh := Unf.of _
theorem g_law08_TreeParts_l2_sh (hL : R_l2 = .loop [6, 106, 107, 108] (some [42]) (.seq (.region [6, 106, 107, 108, 109] (some [42]) none
     [⟨some 109, .bin .lss (.t 108) (.t 107), [], [], none, none⟩])
  (.seq (.cond (.t 109) (.skip)
    (.exit 5))
   (.seq (.block 6 [6, 106, 107, 108] (some [42]) (.seq (.region [6, 13, 106, 107, 108] (some [13, 42]) none
         [⟨some 110, .iaddr 3 (.t 106) (.t 108), [], [], none, none⟩,
          ⟨some 111, .load (some 3) (.t 110), [], [], none, none⟩,
          ⟨some 13, .alloc 13 [.d (.str []), .d (.str []), .d (.int .i64 0)], [], [], none, none⟩,
          ⟨none, .store 3 (.t 13) (.t 111), [], [], none, none⟩])
      (R_c11)))
    (R_c12)))))
 (h : demand (binV BinOp.lss (s 108) (s 107)) (fun x1 =>
condK x1
 (demand (iaddrV (looko ([42].map fun n => (n, o n))) 3 (s 106) (s 108)) (fun x2 =>
demand (loadV (looko ([42].map fun n => (n, o n))) (some 3) x2) (fun x3 =>
(¬ I 13 ∧ Fresh (St.mk (upd (upd (look [(6, (s 6)), (106, (s 106)), (107, (s 107)), (108, (s 108)), (109, x1)]) 110 x2) 111 x3) (looko ([42].map fun n => (n, o n)))) 13 (some 13) ∧ V.refsL 13 [V.d (.str []), V.d (.str []), V.d (.int .i64 0)] = false ∧
storeK (V.ptr 13 0) (cellsV x3) 3 (upd (looko ([42].map fun n => (n, o n))) 13 (some (Ob.box [V.d (.str []), V.d (.str []), V.d (.int .i64 0)]))) (fun m4 ob5 =>
wpB C I R_c11 (St.mk (look [(6, (s 6)), (13, (V.ptr 13 0)), (106, (s 106)), (107, (s 107)), (108, (s 108))]) (looko ([13, 42].map fun n => (n, (upd (upd (looko ([42].map fun n => (n, o n))) 13 (some (Ob.box [V.d (.str []), V.d (.str []), V.d (.int .i64 0)]))) m4 (some ob5)) n)))) (blockK 6 [6, 106, 107, 108] (some [42]) (seqK (fun st => wpB C I R_c12 st (seqK (fun s => wpB C I R_l2 s Q) Q)) (seqK (fun s => wpB C I R_l2 s Q) Q))))))))
 (Q (.exit 5) (St.mk (look [(6, (s 6)), (106, (s 106)), (107, (s 107)), (108, (s 108)), (109, x1)]) (looko ([42].map fun n => (n, o n))))))) : wpB C I R_l2 (St.mk s o) Q := w_loopC hL h
theorem g_law08_TreeParts_c13_sh : wpB C I (.block 5 [6] (some [42]) (R_l2)) (St.mk s o) Q =
 (wpB C I R_l2 (St.mk s o) (blockK 5 [6] (some [42]) Q)) := rfl
@[instance] theorem g_law08_TreeParts_c13_u : UnfAt (wpB C I g_law08_TreeParts.c13 (St.mk s o) Q) g_law08_TreeParts_c13_sh := Unf.of _
theorem g_law08_TreeParts_c14_sh : wpB C I (.region [130, 131, 132] (some [42]) none
   [⟨some 138, .bin .add (.t 132) (.c (.d (.int .i64 1))), [], [], none, none⟩,
    ⟨some 132, .mv (.t 138), [], [], none, none⟩]) (St.mk s o) Q =
 (demand (binV BinOp.add (s 132) (V.d (.int .i64 1))) (fun x1 =>
Q .normal (St.mk (look [(130, (s 130)), (131, (s 131)), (132, x1)]) (looko ([42].map fun n => (n, o n)))))) := rfl
@[instance] theorem g_law08_TreeParts_c14_u : UnfAt (wpB C I g_law08_TreeParts.c14 (St.mk s o) Q) g_law08_TreeParts_c14_sh := Unf.of _
theorem g_law08_TreeParts_l3_sh (hL : R_l3 = .loop [130, 131, 132] (some [42]) (.seq (.region [130, 131, 132, 133] (some [42]) none
     [⟨some 133, .bin .lss (.t 132) (.t 131), [], [], none, none⟩])
  (.seq (.cond (.t 133) (.skip)
    (.exit 7))
   (.seq (.block 8 [130, 131, 132] (some [42]) (.seq (.region [15, 130, 131, 132] (some [42]) none
         [⟨some 134, .iaddr 1 (.t 130) (.t 132), [], [], none, none⟩,
          ⟨some 135, .load none (.t 134), [], [], none, none⟩,
          ⟨some 15, .mv (.t 135), [], [], none, none⟩])
      (.seq (.region [130, 131, 132, 137] (some [42]) none
          [⟨some 136, .mv (.t 15), [], [], none, none⟩,
           ⟨some 137, .bin .neq (.t 136) (.c (.d (.int .i64 1))), [], [], none, none⟩])
       (.cond (.t 137) (.seq (.region [2] (some []) none
            [⟨some 2, .mv (.c (.d (.bool false))), [], [], none, none⟩])
         (.ret))
        (.skip)))))
    (R_c14)))))
 (h : demand (binV BinOp.lss (s 132) (s 131)) (fun x1 =>
condK x1
 (demand (iaddrV (looko ([42].map fun n => (n, o n))) 1 (s 130) (s 132)) (fun x2 =>
demand (loadV (looko ([42].map fun n => (n, o n))) none x2) (fun x3 =>
demand (binV BinOp.neq x3 (V.d (.int .i64 1))) (fun x4 =>
condK x4
 (Q .ret (St.mk (look [(2, (V.d (.bool false)))]) (looko ([].map fun n => (n, o n)))))
 (wpB C I R_c14 (St.mk (look [(130, (s 130)), (131, (s 131)), (132, (s 132))]) (looko ([42].map fun n => (n, o n)))) (seqK (fun s => wpB C I R_l3 s Q) Q))))))
 (Q (.exit 7) (St.mk (look [(130, (s 130)), (131, (s 131)), (132, (s 132)), (133, x1)]) (looko ([42].map fun n => (n, o n))))))) : wpB C I R_l3 (St.mk s o) Q := w_loopC hL h
theorem g_law08_TreeParts_c15_sh : wpB C I (.seq (.region [2] (some []) none
    [⟨some 139, .call 143 [], [], [], none, none⟩,
     ⟨some 2, .mv (.t 139), [], [], none, none⟩])
 (.ret)) (St.mk s o) Q =
 (callK C I (St.mk s o) (some 139) 143 [] (fun r1 or1 =>
Q .ret (St.mk (look [(2, r1)]) (looko ([].map fun n => (n, or1 n)))))) := rfl
@[instance] theorem g_law08_TreeParts_c15_u : UnfAt (wpB C I g_law08_TreeParts.c15 (St.mk s o) Q) g_law08_TreeParts_c15_sh := Unf.of _
theorem g_law08_TreeParts_c16_sh : wpB C I (.seq (.seq (.region [130, 131, 132] (some [42]) none
     [⟨some 130, .mv (.t 6), [], [], none, none⟩,
      ⟨some 131, .len (.t 130), [], [], none, none⟩,
      ⟨some 132, .mv (.c (.d (.int .i64 0))), [], [], none, none⟩])
  (.block 7 [] (some []) (R_l3)))
 (R_c15)) (St.mk s o) Q =
 (demand (lenV o (s 6)) (fun x1 =>
wpB C I R_l3 (St.mk (look [(130, (s 6)), (131, x1), (132, (V.d (.int .i64 0)))]) (looko ([42].map fun n => (n, o n)))) (blockK 7 [] (some []) (seqK (fun st => wpB C I R_c15 st Q) Q)))) := rfl
@[instance] theorem g_law08_TreeParts_c16_u : UnfAt (wpB C I g_law08_TreeParts.c16 (St.mk s o) Q) g_law08_TreeParts_c16_sh := Unf.of _
theorem g_law08_TreeParts_c17_sh : wpB C I (.seq (.seq (.region [6, 106, 107, 108] (some [42]) none
     [⟨some 105, .faddr 0 (.t 3), [], [], none, none⟩,
      ⟨some 106, .load none (.t 105), [], [], none, none⟩,
      ⟨some 107, .len (.t 106), [], [], none, none⟩,
      ⟨some 108, .mv (.c (.d (.int .i64 0))), [], [], none, none⟩])
  (R_c13))
 (R_c16)) (St.mk s o) Q =
 (demand (faddrV 0 (s 3)) (fun x1 =>
demand (loadV o none x1) (fun x2 =>
demand (lenV o x2) (fun x3 =>
wpB C I R_c13 (St.mk (look [(6, (s 6)), (106, x2), (107, x3), (108, (V.d (.int .i64 0)))]) (looko ([42].map fun n => (n, o n)))) (seqK (fun st => wpB C I R_c16 st Q) Q))))) := rfl
@[instance] theorem g_law08_TreeParts_c17_u : UnfAt (wpB C I g_law08_TreeParts.c17 (St.mk s o) Q) g_law08_TreeParts_c17_sh := Unf.of _
theorem g_law08_TreeParts_c18_sh : wpB C I (.seq (.seq (.region [3, 6, 44, 45, 46] (some [3, 42]) none
     [⟨some 43, .faddr 1 (.t 3), [], [], none, none⟩,
      ⟨some 44, .load none (.t 43), [], [], none, none⟩,
      ⟨some 45, .len (.t 44), [], [], none, none⟩,
      ⟨some 46, .mv (.c (.d (.int .i64 0))), [], [], none, none⟩])
  (R_c8))
 (R_c17)) (St.mk s o) Q =
 (demand (faddrV 1 (s 3)) (fun x1 =>
demand (loadV o none x1) (fun x2 =>
demand (lenV o x2) (fun x3 =>
wpB C I R_c8 (St.mk (look [(3, (s 3)), (6, (s 6)), (44, x2), (45, x3), (46, (V.d (.int .i64 0)))]) (looko ([3, 42].map fun n => (n, o n)))) (seqK (fun st => wpB C I R_c17 st Q) Q))))) := rfl
@[instance] theorem g_law08_TreeParts_c18_u : UnfAt (wpB C I g_law08_TreeParts.c18 (St.mk s o) Q) g_law08_TreeParts_c18_sh := Unf.of _
theorem g_law08_TreeParts_c19_sh : wpB C I (.seq (.region [3, 6] (some [3, 42]) none
    [⟨some 39, .faddr 1 (.t 3), [], [], none, none⟩,
     ⟨some 40, .load none (.t 39), [], [], none, none⟩,
     ⟨some 41, .len (.t 40), [], [], none, none⟩,
     ⟨some 42, .mks (some 42) 1 8 [(.int .i64 0)] (.t 41), [], [], none, none⟩,
     ⟨some 6, .mv (.t 42), [], [], none, none⟩])
 (R_c18)) (St.mk s o) Q =
 (demand (faddrV 1 (s 3)) (fun x1 =>
demand (loadV o none x1) (fun x2 =>
demand (lenV o x2) (fun x3 =>
intK x3 (fun n4 => 0 ≤ n4 ∧ n4.toNat * 8 ≤ 140737488355328 ∧ n4 ≤ 140737488355328 ∧ ¬ I 42 ∧ Fresh (St.mk (upd (upd (upd s 39 x1) 40 x2) 41 x3) o) 42 (some 42) ∧
wpB C I R_c18 (St.mk (look [(3, (s 3)), (6, (V.own 42))]) (looko ([3, 42].map fun n => (n, (upd o 42 (some (Ob.row 1 (List.replicate n4.toNat [(.int .i64 0)])))) n)))) Q))))) := rfl
@[instance] theorem g_law08_TreeParts_c19_u : UnfAt (wpB C I g_law08_TreeParts.c19 (St.mk s o) Q) g_law08_TreeParts_c19_sh := Unf.of _
theorem g_law08_TreeParts_c20_sh : wpB C I (.seq (.seq (.region [3, 27] (some [3]) none
     [⟨some 26, .mv (.t 5), [], [], none, none⟩,
      ⟨some 27, .bin .neq (.t 26) (.c (.d (.int .i64 0))), [], [], none, none⟩])
  (.cond (.t 27) (.seq (.region [2] (some []) none
       (⟨some 28, .faddr 0 (.t 3), [], [], none, none⟩ ::
        ⟨some 29, .load none (.t 28), [], [], none, none⟩ ::
        ⟨some 30, .len (.t 29), [], [], none, none⟩ ::
        ⟨some 31, .faddr 1 (.t 3), [], [], none, none⟩ ::
        ⟨some 32, .load none (.t 31), [], [], none, none⟩ ::
        ⟨some 33, .len (.t 32), [], [], none, none⟩ ::
        ⟨some 34, .bin .add (.t 30) (.t 33), [], [], none, none⟩ ::
        ⟨some 35, .bin .eql (.t 34) (.c (.d (.int .i64 0))), [], [], none, none⟩ ::
        ⟨some 36, .mv (.t 35), [], [], none, (some ([36], (some [])))⟩ ::
        R_o0))
    (R_c0))
   (.skip)))
 (R_c19)) (St.mk s o) Q =
 (demand (binV BinOp.neq (s 5) (V.d (.int .i64 0))) (fun x1 =>
condK x1
 (demand (faddrV 0 (s 3)) (fun x2 =>
demand (loadV (looko ([3].map fun n => (n, o n))) none x2) (fun x3 =>
demand (lenV (looko ([3].map fun n => (n, o n))) x3) (fun x4 =>
demand (faddrV 1 (s 3)) (fun x5 =>
demand (loadV (looko ([3].map fun n => (n, o n))) none x5) (fun x6 =>
demand (lenV (looko ([3].map fun n => (n, o n))) x6) (fun x7 =>
demand (binV BinOp.add x4 x7) (fun x8 =>
demand (binV BinOp.eql x8 (V.d (.int .i64 0))) (fun x9 =>
opsB C I R_o0 (St.mk (look [(36, x9)]) (looko ([].map fun n => (n, o n)))) (fun st => (seqK (fun st => wpB C I R_c0 st (seqK (fun st => wpB C I R_c19 st Q) Q)) (seqK (fun st => wpB C I R_c19 st Q) Q)) .normal (St.trim st [2] (some []))))))))))))
 (wpB C I R_c19 (St.mk (look [(3, (s 3)), (27, x1)]) (looko ([3].map fun n => (n, o n)))) Q))) := rfl
@[instance] theorem g_law08_TreeParts_c20_u : UnfAt (wpB C I g_law08_TreeParts.c20 (St.mk s o) Q) g_law08_TreeParts_c20_sh := Unf.of _
theorem g_law08_TreeParts_c21_sh : wpB C I (.seq (.region [3, 5] (some [3]) none
    [⟨some 21, .mv (.t 0), [], [], none, none⟩,
     ⟨some 22, .call 144 [(.t 21)], [], [], none, none⟩,
     ⟨some 20, .mv (.t 22), [], [], none, none⟩,
     ⟨some 23, .ext (.t 20) 0, [], [], none, none⟩,
     ⟨some 24, .ext (.t 20) 1, [], [], none, none⟩,
     ⟨some 25, .ext (.t 20) 2, [], [], none, none⟩,
     ⟨some 3, .alloc 3 [.cap0, .cap0], [], [], none, none⟩,
     ⟨none, .store 2 (.t 3) (.t 23), [], [], none, none⟩,
     ⟨some 4, .mv (.t 24), [], [], none, none⟩,
     ⟨some 5, .mv (.t 25), [], [], none, none⟩])
 (R_c20)) (St.mk s o) Q =
 (callK C I (St.mk (upd s 21 (s 0)) o) (some 22) 144 [(s 0)] (fun r1 or1 =>
demand (extV r1 0) (fun x2 =>
demand (extV r1 1) (fun x3 =>
demand (extV r1 2) (fun x4 =>
(¬ I 3 ∧ Fresh (St.mk (upd (upd (upd (upd (upd (upd s 21 (s 0)) 22 r1) 20 r1) 23 x2) 24 x3) 25 x4) or1) 3 (some 3) ∧ V.refsL 3 [V.cap0, V.cap0] = false ∧
storeK (V.ptr 3 0) (cellsV x2) 2 (upd or1 3 (some (Ob.box [V.cap0, V.cap0]))) (fun m5 ob6 =>
wpB C I R_c20 (St.mk (look [(3, (V.ptr 3 0)), (5, x4)]) (looko ([3].map fun n => (n, (upd (upd or1 3 (some (Ob.box [V.cap0, V.cap0]))) m5 (some ob6)) n)))) Q))))))) := rfl
@[instance] theorem g_law08_TreeParts_c21_u : UnfAt (wpB C I g_law08_TreeParts.c21 (St.mk s o) Q) g_law08_TreeParts_c21_sh := Unf.of _
theorem g_law08_TreeParts_code_sh : wpB C I (.seq (.region [0] (some []) none
    [⟨some 2, .mv (.c (.d (.bool false))), [], [], none, none⟩])
 (.seq (.seq (.region [0, 18] (some []) none
      [⟨some 16, .mv (.t 0), [], [], none, none⟩,
       ⟨some 17, .lenS (.t 16), [], [], none, none⟩,
       ⟨some 18, .bin .gtr (.t 17) (.c (.d (.int .i64 600))), [], [], none, none⟩])
   (.cond (.t 18) (.seq (.region [2] (some []) none
        [⟨some 19, .call 143 [], [], [], none, none⟩,
         ⟨some 2, .mv (.t 19), [], [], none, none⟩])
     (.ret))
    (.skip)))
  (R_c21))) (St.mk s o) Q =
 (demand (lenSV (s 0)) (fun x1 =>
demand (binV BinOp.gtr x1 (V.d (.int .i64 600))) (fun x2 =>
condK x2
 (callK C I (St.mk (look [(0, (s 0)), (18, x2)]) (looko ([].map fun n => (n, o n)))) (some 19) 143 [] (fun r3 or3 =>
Q .ret (St.mk (look [(2, r3)]) (looko ([].map fun n => (n, or3 n))))))
 (wpB C I R_c21 (St.mk (look [(0, (s 0)), (18, x2)]) (looko ([].map fun n => (n, o n)))) Q)))) := rfl
@[instance] theorem g_law08_TreeParts_code_u : UnfAt (wpB C I g_law08_TreeParts.code (St.mk s o) Q) g_law08_TreeParts_code_sh := Unf.of _

end Pay
