/- The program's functions as abstract code. -/
import Derived.Test.YtcgeldjhobmijaaDoorPayBa1
set_option maxRecDepth 20000
namespace Pay
def g_law08_TreeJoins.o1 : List AOper :=
  [⟨some 28, .pick (.t 24) (.c (.d (.bool true))) (.t 27), [], [], none, none⟩]
def g_law08_TreeJoins.o0 : List AOper :=
  (⟨some 25, .mv (.t 1), [], [], (some (3, 24, false)), none⟩ ::
     ⟨some 26, .lenS (.t 25), [], [], (some (3, 24, false)), none⟩ ::
     ⟨some 27, .bin .gtr (.t 26) (.c (.d (.int .i64 300))), [], [], (some (3, 24, false)), (some ([0, 1, 24, 27], (some [])))⟩ ::
     g_law08_TreeJoins.o1)
def g_law08_TreeJoins.c0 : ACode :=
  .cond (.t 28) (.seq (.region [4] (some []) none
      [⟨some 29, .call 143 [], [], [], none, none⟩,
       ⟨some 4, .mv (.t 29), [], [], none, none⟩])
   (.ret))
  (.skip)
def g_law08_TreeJoins.o3 : List AOper :=
  [⟨some 59, .pick (.t 57) (.t 58) (.c (.d (.bool false))), [], [], none, none⟩,
     ⟨some 4, .mv (.t 59), [], [], none, none⟩]
def g_law08_TreeJoins.o2 : List AOper :=
  (⟨some 58, .call 143 [], [], [], (some (4, 57, true)), (some ([57, 58], (some [])))⟩ ::
     g_law08_TreeJoins.o3)
def g_law08_TreeJoins.c1 : ACode :=
  .ret
def g_law08_TreeJoins.o5 : List AOper :=
  [⟨some 72, .pick (.t 70) (.t 71) (.c (.d (.bool false))), [], [], none, none⟩,
     ⟨some 4, .mv (.t 72), [], [], none, none⟩]
def g_law08_TreeJoins.o4 : List AOper :=
  (⟨some 71, .call 143 [], [], [], (some (2, 70, true)), (some ([70, 71], (some [])))⟩ ::
     g_law08_TreeJoins.o5)
def g_law08_TreeJoins.c2 : ACode :=
  .ret
def g_law08_TreeJoins.o19 : List AOper :=
  [⟨some 111, .pick (.t 109) (.t 110) (.c (.d (.bool false))), [], [], none, none⟩,
     ⟨some 4, .mv (.t 111), [], [], none, none⟩]
def g_law08_TreeJoins.o18 : List AOper :=
  (⟨some 110, .call 143 [], [], [], (some (34, 109, true)), (some ([109, 110], (some [])))⟩ ::
     g_law08_TreeJoins.o19)
def g_law08_TreeJoins.o17 : List AOper :=
  (⟨some 108, .pick (.t 103) (.t 107) (.c (.d (.bool false))), [], [], none, none⟩ ::
     ⟨some 109, .mv (.t 108), [], [], none, (some ([109], (some [])))⟩ ::
     g_law08_TreeJoins.o18)
def g_law08_TreeJoins.o16 : List AOper :=
  (⟨some 104, .faddr 0 (.t 11), [], [], (some (28, 103, true)), none⟩ ::
     ⟨some 105, .load none (.t 104), [], [], (some (28, 103, true)), none⟩ ::
     ⟨some 106, .len (.t 105), [], [], (some (28, 103, true)), none⟩ ::
     ⟨some 107, .bin .eql (.t 106) (.c (.d (.int .i64 0))), [], [], (some (28, 103, true)), (some ([103, 107], (some [])))⟩ ::
     g_law08_TreeJoins.o17)
def g_law08_TreeJoins.o15 : List AOper :=
  (⟨some 102, .pick (.t 95) (.c (.d (.bool true))) (.t 101), [], [], none, none⟩ ::
     ⟨some 103, .mv (.t 102), [], [], none, (some ([11, 103], (some [11])))⟩ ::
     g_law08_TreeJoins.o16)
def g_law08_TreeJoins.o14 : List AOper :=
  (⟨some 101, .pick (.t 98) (.t 100) (.c (.d (.bool false))), [], [], (some (20, 95, false)), (some ([11, 95, 101], (some [11])))⟩ ::
     g_law08_TreeJoins.o15)
def g_law08_TreeJoins.o13 : List AOper :=
  (⟨some 99, .mv (.t 13), [], [], (some (23, 98, true)), none⟩ ::
     ⟨some 100, .bin .eql (.t 99) (.c (.d (.int .i64 9))), [], [], (some (23, 98, true)), (some ([11, 95, 98, 100], (some [11])))⟩ ::
     g_law08_TreeJoins.o14)
def g_law08_TreeJoins.o12 : List AOper :=
  (⟨some 96, .mv (.t 10), [], [], (some (20, 95, false)), none⟩ ::
     ⟨some 97, .bin .eql (.t 96) (.c (.d (.int .i64 9))), [], [], (some (20, 95, false)), none⟩ ::
     ⟨some 98, .mv (.t 97), [], [], (some (20, 95, false)), (some ([11, 13, 95, 98], (some [11])))⟩ ::
     g_law08_TreeJoins.o13)
def g_law08_TreeJoins.o11 : List AOper :=
  (⟨some 94, .pick (.t 87) (.c (.d (.bool true))) (.t 93), [], [], none, none⟩ ::
     ⟨some 95, .mv (.t 94), [], [], none, (some ([10, 11, 13, 95], (some [11])))⟩ ::
     g_law08_TreeJoins.o12)
def g_law08_TreeJoins.o10 : List AOper :=
  (⟨some 93, .pick (.t 90) (.t 92) (.c (.d (.bool false))), [], [], (some (12, 87, false)), (some ([10, 11, 13, 87, 93], (some [11])))⟩ ::
     g_law08_TreeJoins.o11)
def g_law08_TreeJoins.o9 : List AOper :=
  (⟨some 91, .mv (.t 13), [], [], (some (15, 90, true)), none⟩ ::
     ⟨some 92, .bin .eql (.t 91) (.c (.d (.int .i64 9))), [], [], (some (15, 90, true)), (some ([10, 11, 13, 87, 90, 92], (some [11])))⟩ ::
     g_law08_TreeJoins.o10)
def g_law08_TreeJoins.o8 : List AOper :=
  (⟨some 88, .mv (.t 10), [], [], (some (12, 87, false)), none⟩ ::
     ⟨some 89, .bin .eql (.t 88) (.c (.d (.int .i64 2))), [], [], (some (12, 87, false)), none⟩ ::
     ⟨some 90, .mv (.t 89), [], [], (some (12, 87, false)), (some ([10, 11, 13, 87, 90], (some [11])))⟩ ::
     g_law08_TreeJoins.o9)
def g_law08_TreeJoins.o7 : List AOper :=
  (⟨some 86, .pick (.t 78) (.t 85) (.c (.d (.bool false))), [], [], none, none⟩ ::
     ⟨some 87, .mv (.t 86), [], [], none, (some ([10, 11, 13, 87], (some [11])))⟩ ::
     g_law08_TreeJoins.o8)
def g_law08_TreeJoins.o6 : List AOper :=
  (⟨some 79, .mv (.t 12), [], [], (some (3, 78, true)), none⟩ ::
     ⟨some 80, .mv (.t 9), [], [], (some (3, 78, true)), none⟩ ::
     ⟨some 81, .mv (.t 0), [], [], (some (3, 78, true)), none⟩ ::
     ⟨some 82, .lenS (.t 81), [], [], (some (3, 78, true)), none⟩ ::
     ⟨some 83, .bin .add (.t 80) (.t 82), [], [], (some (3, 78, true)), none⟩ ::
     ⟨some 84, .bin .add (.t 83) (.c (.d (.int .i64 1))), [], [], (some (3, 78, true)), none⟩ ::
     ⟨some 85, .bin .eql (.t 79) (.t 84), [], [], (some (3, 78, true)), (some ([10, 11, 13, 78, 85], (some [11])))⟩ ::
     g_law08_TreeJoins.o7)
def g_law08_TreeJoins.c3 : ACode :=
  .ret
def g_law08_TreeJoins.a20 : List AOper :=
  [⟨some 144, .faddr 3 (.t 17), [], [], none, none⟩,
     ⟨some 145, .load none (.t 144), [], [0], none, none⟩,
     ⟨some 146, .mv (.t 15), [], [], none, none⟩,
     ⟨some 147, .bin .add (.t 145) (.t 146), [], [1, 2], none, none⟩,
     ⟨some 148, .faddr 4 (.t 17), [], [], none, none⟩,
     ⟨some 149, .load none (.t 148), [], [4], none, none⟩,
     ⟨some 150, .mv (.t 15), [], [], none, none⟩,
     ⟨some 151, .bin .add (.t 149) (.t 150), [], [5, 6], none, none⟩,
     ⟨some 152, .faddr 5 (.t 17), [], [], none, none⟩,
     ⟨some 153, .load none (.t 152), [], [8], none, none⟩,
     ⟨some 154, .mv (.t 15), [], [], none, none⟩,
     ⟨some 155, .bin .add (.t 153) (.t 154), [], [9, 10], none, none⟩,
     ⟨some 156, .faddr 3 (.t 18), [], [0, 1, 2, 3], none, none⟩,
     ⟨none, .store 1 (.t 156) (.t 147), [], [12, 3, 0, 1, 2, 3], none, none⟩,
     ⟨some 157, .faddr 4 (.t 18), [], [0, 1, 2, 3, 4, 5, 6, 7, 12, 13], none, none⟩,
     ⟨none, .store 1 (.t 157) (.t 151), [], [14, 7, 13, 0, 1, 2, 3, 4, 5, 6, 7, 12, 13], none, none⟩,
     ⟨some 158, .faddr 5 (.t 18), [], [0, 1, 2, 3, 4, 5, 6, 7, 8, 9, 10, 11, 12, 13, 14, 15], none, none⟩,
     ⟨none, .store 1 (.t 158) (.t 155), [], [16, 11, 15, 0, 1, 2, 3, 4, 5, 6, 7, 8, 9, 10, 11, 12, 13, 14, 15], none, none⟩]
def g_law08_TreeJoins.t31 : Tr := .one 17 .done
def g_law08_TreeJoins.t32 : Tr := .one 16 g_law08_TreeJoins.t31
def g_law08_TreeJoins.t33 : Tr := .one 15 g_law08_TreeJoins.t32
def g_law08_TreeJoins.t34 : Tr := .one 14 g_law08_TreeJoins.t33
def g_law08_TreeJoins.t35 : Tr := .one 13 g_law08_TreeJoins.t34
def g_law08_TreeJoins.t36 : Tr := .one 11 g_law08_TreeJoins.t32
def g_law08_TreeJoins.t37 : Tr := .one 15 g_law08_TreeJoins.t36
def g_law08_TreeJoins.t38 : Tr := .two 11 g_law08_TreeJoins.t33 g_law08_TreeJoins.t37
def g_law08_TreeJoins.t39 : Tr := .one 14 g_law08_TreeJoins.t38
def g_law08_TreeJoins.t40 : Tr := .two 11 g_law08_TreeJoins.t34 g_law08_TreeJoins.t39
def g_law08_TreeJoins.t41 : Tr := .one 13 g_law08_TreeJoins.t40
def g_law08_TreeJoins.t42 : Tr := .two 11 g_law08_TreeJoins.t35 g_law08_TreeJoins.t41
def g_law08_TreeJoins.t43 : Tr := .one 9 g_law08_TreeJoins.t36
def g_law08_TreeJoins.t44 : Tr := .one 15 g_law08_TreeJoins.t43
def g_law08_TreeJoins.t45 : Tr := .two 9 g_law08_TreeJoins.t38 g_law08_TreeJoins.t44
def g_law08_TreeJoins.t46 : Tr := .one 14 g_law08_TreeJoins.t45
def g_law08_TreeJoins.t47 : Tr := .two 9 g_law08_TreeJoins.t40 g_law08_TreeJoins.t46
def g_law08_TreeJoins.t48 : Tr := .one 13 g_law08_TreeJoins.t47
def g_law08_TreeJoins.t49 : Tr := .two 9 g_law08_TreeJoins.t42 g_law08_TreeJoins.t48
def g_law08_TreeJoins.i30 : List Nat := 7 :: []
def g_law08_TreeJoins.i29 : List Nat := 1005 :: g_law08_TreeJoins.i30
def g_law08_TreeJoins.i28 : List Nat := 12 :: g_law08_TreeJoins.i29
def g_law08_TreeJoins.i27 : List Nat := 10 :: g_law08_TreeJoins.i28
def g_law08_TreeJoins.i26 : List Nat := 8 :: g_law08_TreeJoins.i27
def g_law08_TreeJoins.i25 : List Nat := 6 :: g_law08_TreeJoins.i26
def g_law08_TreeJoins.i24 : List Nat := 4 :: g_law08_TreeJoins.i25
def g_law08_TreeJoins.i23 : List Nat := 3 :: g_law08_TreeJoins.i24
def g_law08_TreeJoins.i22 : List Nat := 2 :: g_law08_TreeJoins.i23
def g_law08_TreeJoins.i21 : List Nat := 1 :: g_law08_TreeJoins.i22
def g_law08_TreeJoins.c4 : ACode :=
  .cond (.t 137) (.skip)
  (.seq (.region [8, 11, 13, 14, 15, 17, 18, 118, 119, 120, 126, 142] (some [8, 11, 14, 17, 18, 170, 192]) none
      [⟨some 143, .bin .eql (.t 126) (.c (.d (.str [105, 102]))), [], [], none, none⟩,
       ⟨some 142, .mv (.t 143), [], [], none, none⟩])
   (.cond (.t 142) (.region [8, 11, 13, 14, 15, 18, 118, 119, 120] (some [8, 11, 14, 18, 170, 192]) (some (0 :: g_law08_TreeJoins.i21, g_law08_TreeJoins.t49)) g_law08_TreeJoins.a20)
    (.seq (.region [8, 11, 13, 14, 15, 17, 18, 118, 119, 120, 159] (some [8, 11, 14, 17, 18, 170, 192]) none
        [⟨some 160, .bin .eql (.t 126) (.c (.d (.str [110, 101, 103]))), [], [], none, none⟩,
         ⟨some 159, .mv (.t 160), [], [], none, none⟩])
     (.cond (.t 159) (.region [8, 11, 13, 14, 15, 18, 118, 119, 120] (some [8, 11, 14, 18, 170, 192]) none
         [⟨some 161, .faddr 3 (.t 17), [], [], none, none⟩,
          ⟨some 162, .load none (.t 161), [], [], none, none⟩,
          ⟨some 163, .mv (.t 15), [], [], none, none⟩,
          ⟨some 164, .bin .add (.t 162) (.t 163), [], [], none, none⟩,
          ⟨some 165, .faddr 3 (.t 18), [], [], none, none⟩,
          ⟨none, .store 1 (.t 165) (.t 164), [], [], none, none⟩])
      (.region [8, 11, 13, 14, 15, 18, 118, 119, 120] (some [8, 11, 14, 18, 170, 192]) (some ([0, 1, 2, 3, 4, 6, 8, 1005, 7], .one 9 (.one 10 (.one 11 (.done)))))
         [⟨some 127, .faddr 3 (.t 17), [], [], none, none⟩,
          ⟨some 128, .load none (.t 127), [], [0], none, none⟩,
          ⟨some 129, .mv (.t 15), [], [], none, none⟩,
          ⟨some 130, .bin .add (.t 128) (.t 129), [], [1, 2], none, none⟩,
          ⟨some 131, .faddr 4 (.t 17), [], [], none, none⟩,
          ⟨some 132, .load none (.t 131), [], [4], none, none⟩,
          ⟨some 133, .mv (.t 15), [], [], none, none⟩,
          ⟨some 134, .bin .add (.t 132) (.t 133), [], [5, 6], none, none⟩,
          ⟨some 135, .faddr 3 (.t 18), [], [0, 1, 2, 3], none, none⟩,
          ⟨none, .store 1 (.t 135) (.t 130), [], [8, 3, 0, 1, 2, 3], none, none⟩,
          ⟨some 136, .faddr 4 (.t 18), [], [0, 1, 2, 3, 4, 5, 6, 7, 8, 9], none, none⟩,
          ⟨none, .store 1 (.t 136) (.t 134), [], [10, 7, 9, 0, 1, 2, 3, 4, 5, 6, 7, 8, 9], none, none⟩])))))
def g_law08_TreeJoins.c5 : ACode :=
  .region [8, 11, 13, 14, 15, 118, 119, 120] (some [8, 11, 14, 170, 192]) none
    [⟨some 166, .faddr 1 (.t 14), [], [], none, none⟩,
     ⟨some 167, .load none (.t 166), [], [], none, none⟩,
     ⟨some 168, .load (some 6) (.t 18), [], [], none, none⟩,
     ⟨some 169, .bsl none 6 [] 1 [(0, (.t 168))], [], [], none, none⟩,
     ⟨some 170, .app (some 170) 6 64 (.t 167) (.t 169), [], [], none, none⟩,
     ⟨some 171, .faddr 1 (.t 14), [], [], none, none⟩,
     ⟨none, .store 1 (.t 171) (.t 170), [], [], none, none⟩]
def g_law08_TreeJoins.c6 : ACode :=
  .seq (.region [8, 11, 13, 14, 15, 17, 18, 118, 119, 120] (some [8, 11, 14, 17, 18, 170, 192]) none
     [⟨some 124, .load (some 6) (.t 17), [], [], none, none⟩,
      ⟨some 18, .alloc 18 [.d (.str []), .d (.str []), .d (.int .i64 0), .d (.int .i64 0), .d (.int .i64 0), .d (.int .i64 0)], [], [], none, none⟩,
      ⟨none, .store 6 (.t 18) (.t 124), [], [], none, none⟩])
  (.seq (.seq (.region [8, 11, 13, 14, 15, 17, 18, 118, 119, 120, 126] (some [8, 11, 14, 17, 18, 170, 192]) none
       [⟨some 125, .faddr 0 (.t 17), [], [], none, none⟩,
        ⟨some 126, .load none (.t 125), [], [], none, none⟩])
    (.block 2 [8, 11, 13, 14, 15, 18, 118, 119, 120] (some [8, 11, 14, 18, 170, 192]) (.seq (.seq (.region [8, 11, 13, 14, 15, 17, 18, 118, 119, 120, 126, 137] (some [8, 11, 14, 17, 18, 170, 192]) none
          [⟨some 138, .bin .eql (.t 126) (.c (.d (.str [119, 104, 111, 108, 101]))), [], [], none, none⟩,
           ⟨some 137, .mv (.t 138), [], [], none, none⟩])
       (.cond (.t 137) (.skip)
        (.seq (.region [8, 11, 13, 14, 15, 17, 18, 118, 119, 120, 126, 137] (some [8, 11, 14, 17, 18, 170, 192]) none
            [⟨some 139, .bin .eql (.t 126) (.c (.d (.str [97, 109, 111, 117, 110, 116]))), [], [], none, none⟩,
             ⟨some 137, .mv (.t 139), [], [], none, none⟩])
         (.cond (.t 137) (.skip)
          (.seq (.region [8, 11, 13, 14, 15, 17, 18, 118, 119, 120, 126, 137] (some [8, 11, 14, 17, 18, 170, 192]) none
              [⟨some 140, .bin .eql (.t 126) (.c (.d (.str [114, 97, 116, 101]))), [], [], none, none⟩,
               ⟨some 137, .mv (.t 140), [], [], none, none⟩])
           (.cond (.t 137) (.skip)
            (.region [8, 11, 13, 14, 15, 17, 18, 118, 119, 120, 126, 137] (some [8, 11, 14, 17, 18, 170, 192]) none
               [⟨some 141, .bin .eql (.t 126) (.c (.d (.str [110, 97, 109, 101]))), [], [], none, none⟩,
                ⟨some 137, .mv (.t 141), [], [], none, none⟩])))))))
      (g_law08_TreeJoins.c4))))
   (g_law08_TreeJoins.c5))
def g_law08_TreeJoins.c7 : ACode :=
  .region [8, 11, 13, 14, 15, 118, 119, 120] (some [8, 11, 14, 170, 192]) none
    [⟨some 172, .bin .add (.t 120) (.c (.d (.int .i64 1))), [], [], none, none⟩,
     ⟨some 120, .mv (.t 172), [], [], none, none⟩]
def g_law08_TreeJoins.l0 : ACode :=
  .loop [8, 11, 13, 14, 15, 118, 119, 120] (some [8, 11, 14, 170, 192]) (.seq (.region [8, 11, 13, 14, 15, 118, 119, 120, 121] (some [8, 11, 14, 170, 192]) none
     [⟨some 121, .bin .lss (.t 120) (.t 119), [], [], none, none⟩])
  (.seq (.cond (.t 121) (.skip)
    (.exit 0))
   (.seq (.block 1 [8, 11, 13, 14, 15, 118, 119, 120] (some [8, 11, 14, 170, 192]) (.seq (.region [8, 11, 13, 14, 15, 17, 118, 119, 120] (some [8, 11, 14, 17, 170, 192]) none
         [⟨some 122, .iaddr 6 (.t 118) (.t 120), [], [], none, none⟩,
          ⟨some 123, .load (some 6) (.t 122), [], [], none, none⟩,
          ⟨some 17, .alloc 17 [.d (.str []), .d (.str []), .d (.int .i64 0), .d (.int .i64 0), .d (.int .i64 0), .d (.int .i64 0)], [], [], none, none⟩,
          ⟨none, .store 6 (.t 17) (.t 123), [], [], none, none⟩])
      (g_law08_TreeJoins.c6)))
    (g_law08_TreeJoins.c7))))
def g_law08_TreeJoins.c8 : ACode :=
  .block 0 [8, 11, 13, 14, 15] (some [8, 11, 14, 170, 192]) (g_law08_TreeJoins.l0)
def g_law08_TreeJoins.c9 : ACode :=
  .region [11, 13, 14, 15, 174, 175, 176] (some [11, 14, 170, 192]) none
    [⟨some 180, .faddr 0 (.t 14), [], [], none, none⟩,
     ⟨some 181, .load none (.t 180), [], [], none, none⟩,
     ⟨some 182, .faddr 0 (.t 20), [], [], none, none⟩,
     ⟨some 183, .load none (.t 182), [], [], none, none⟩,
     ⟨some 184, .faddr 1 (.t 20), [], [], none, none⟩,
     ⟨some 185, .load none (.t 184), [], [], none, none⟩,
     ⟨some 186, .faddr 2 (.t 20), [], [], none, none⟩,
     ⟨some 187, .load none (.t 186), [], [], none, none⟩,
     ⟨some 188, .mv (.t 15), [], [], none, none⟩,
     ⟨some 189, .bin .add (.t 187) (.t 188), [], [], none, none⟩,
     ⟨some 190, .build [.d (.str []), .d (.str []), .d (.int .i64 0)] [(0, 1, (.t 183)), (1, 1, (.t 185)), (2, 1, (.t 189))], [], [], none, none⟩,
     ⟨some 191, .bsl none 3 [] 1 [(0, (.t 190))], [], [], none, none⟩,
     ⟨some 192, .app (some 192) 3 40 (.t 181) (.t 191), [], [], none, none⟩,
     ⟨some 193, .faddr 0 (.t 14), [], [], none, none⟩,
     ⟨none, .store 1 (.t 193) (.t 192), [], [], none, none⟩]
def g_law08_TreeJoins.c10 : ACode :=
  .region [11, 13, 14, 15, 174, 175, 176] (some [11, 14, 170, 192]) none
    [⟨some 194, .bin .add (.t 176) (.c (.d (.int .i64 1))), [], [], none, none⟩,
     ⟨some 176, .mv (.t 194), [], [], none, none⟩]
def g_law08_TreeJoins.l1 : ACode :=
  .loop [11, 13, 14, 15, 174, 175, 176] (some [11, 14, 170, 192]) (.seq (.region [11, 13, 14, 15, 174, 175, 176, 177] (some [11, 14, 170, 192]) none
     [⟨some 177, .bin .lss (.t 176) (.t 175), [], [], none, none⟩])
  (.seq (.cond (.t 177) (.skip)
    (.exit 3))
   (.seq (.block 4 [11, 13, 14, 15, 174, 175, 176] (some [11, 14, 170, 192]) (.seq (.region [11, 13, 14, 15, 20, 174, 175, 176] (some [11, 14, 20, 170, 192]) none
         [⟨some 178, .iaddr 3 (.t 174) (.t 176), [], [], none, none⟩,
          ⟨some 179, .load (some 3) (.t 178), [], [], none, none⟩,
          ⟨some 20, .alloc 20 [.d (.str []), .d (.str []), .d (.int .i64 0)], [], [], none, none⟩,
          ⟨none, .store 3 (.t 20) (.t 179), [], [], none, none⟩])
      (g_law08_TreeJoins.c9)))
    (g_law08_TreeJoins.c10))))
def g_law08_TreeJoins.c11 : ACode :=
  .block 3 [11, 13, 14] (some [11, 14, 170, 192]) (g_law08_TreeJoins.l1)
def g_law08_TreeJoins.a50 : List AOper :=
  [⟨some 195, .mv (.t 13), [], [], none, none⟩,
     ⟨some 196, .bin .eql (.t 195) (.c (.d (.int .i64 0))), [], [0], none, none⟩,
     ⟨some 197, .mv (.t 196), [], [1], none, none⟩,
     ⟨some 198, .load (some 2) (.t 11), [], [2], (some (2, 197, true)), none⟩,
     ⟨some 199, .call 146 [(.t 198)], [], [3, 2, 2], (some (2, 197, true)), none⟩,
     ⟨some 200, .load (some 2) (.t 14), [], [2], (some (2, 197, true)), none⟩,
     ⟨some 201, .call 147 [(.t 199), (.t 200)], [], [4, 5, 4, 2], (some (2, 197, true)), none⟩,
     ⟨some 202, .pick (.t 197) (.t 201) (.c (.d (.bool false))), [], [2, 6], none, none⟩,
     ⟨some 203, .mv (.t 202), [], [7, 6], none, none⟩,
     ⟨some 204, .call 143 [], [], [8, 8], (some (8, 203, true)), none⟩,
     ⟨some 205, .pick (.t 203) (.t 204) (.c (.d (.bool false))), [], [8, 9], none, none⟩,
     ⟨some 4, .mv (.t 205), [], [10, 9, 0, 1, 2, 3, 4, 5, 6, 7, 8, 9, 10], none, none⟩]
def g_law08_TreeJoins.i61 : List Nat := 11 :: []
def g_law08_TreeJoins.i60 : List Nat := 10 :: g_law08_TreeJoins.i61
def g_law08_TreeJoins.i59 : List Nat := 9 :: g_law08_TreeJoins.i60
def g_law08_TreeJoins.i58 : List Nat := 8 :: g_law08_TreeJoins.i59
def g_law08_TreeJoins.i57 : List Nat := 7 :: g_law08_TreeJoins.i58
def g_law08_TreeJoins.i56 : List Nat := 6 :: g_law08_TreeJoins.i57
def g_law08_TreeJoins.i55 : List Nat := 5 :: g_law08_TreeJoins.i56
def g_law08_TreeJoins.i54 : List Nat := 4 :: g_law08_TreeJoins.i55
def g_law08_TreeJoins.i53 : List Nat := 3 :: g_law08_TreeJoins.i54
def g_law08_TreeJoins.i52 : List Nat := 2 :: g_law08_TreeJoins.i53
def g_law08_TreeJoins.i51 : List Nat := 1 :: g_law08_TreeJoins.i52
def g_law08_TreeJoins.c12 : ACode :=
  .ret
def g_law08_TreeJoins.c13 : ACode :=
  .seq (.region [4] (some []) (some (1000014 :: 0 :: g_law08_TreeJoins.i51, .done)) g_law08_TreeJoins.a50)
  (g_law08_TreeJoins.c12)
def g_law08_TreeJoins.c14 : ACode :=
  .seq (.seq (.region [11, 13, 14, 15, 174, 175, 176] (some [11, 14, 170, 192]) none
      [⟨some 173, .faddr 0 (.t 8), [], [], none, none⟩,
       ⟨some 174, .load none (.t 173), [], [], none, none⟩,
       ⟨some 175, .len (.t 174), [], [], none, none⟩,
       ⟨some 176, .mv (.c (.d (.int .i64 0))), [], [], none, none⟩])
   (g_law08_TreeJoins.c11))
  (g_law08_TreeJoins.c13)
def g_law08_TreeJoins.c15 : ACode :=
  .seq (.seq (.region [8, 11, 13, 14, 15, 118, 119, 120] (some [8, 11, 14, 170, 192]) none
      [⟨some 117, .faddr 1 (.t 8), [], [], none, none⟩,
       ⟨some 118, .load none (.t 117), [], [], none, none⟩,
       ⟨some 119, .len (.t 118), [], [], none, none⟩,
       ⟨some 120, .mv (.c (.d (.int .i64 0))), [], [], none, none⟩])
   (g_law08_TreeJoins.c8))
  (g_law08_TreeJoins.c14)
def g_law08_TreeJoins.c16 : ACode :=
  .seq (.region [8, 11, 13, 14, 15] (some [8, 11, 14, 170, 192]) none
     [⟨some 114, .faddr 1 (.t 5), [], [], none, none⟩,
      ⟨some 115, .load none (.t 114), [], [], none, none⟩,
      ⟨some 116, .len (.t 115), [], [], none, none⟩,
      ⟨some 15, .mv (.t 116), [], [], none, none⟩])
  (g_law08_TreeJoins.c15)
def g_law08_TreeJoins.c17 : ACode :=
  .seq (.region [5, 8, 11, 13, 14] (some [5, 8, 11, 14, 170, 192]) none
     [⟨some 112, .load (some 2) (.t 5), [], [], none, none⟩,
      ⟨some 113, .call 146 [(.t 112)], [], [], none, none⟩,
      ⟨some 14, .alloc 14 [.cap0, .cap0], [], [], none, none⟩,
      ⟨none, .store 2 (.t 14) (.t 113), [], [], none, none⟩])
  (g_law08_TreeJoins.c16)
def g_law08_TreeJoins.c18 : ACode :=
  .seq (.seq (.region [0, 5, 8, 9, 10, 11, 12, 13, 74] (some [5, 8, 11]) none
      [⟨some 73, .mv (.t 10), [], [], none, none⟩,
       ⟨some 74, .bin .neq (.t 73) (.c (.d (.int .i64 0))), [], [], none, none⟩])
   (.cond (.t 74) (.seq (.region [4] (some []) none
        (⟨some 75, .mv (.t 13), [], [], none, none⟩ ::
         ⟨some 76, .mv (.t 10), [], [], none, none⟩ ::
         ⟨some 77, .bin .eql (.t 75) (.t 76), [], [], none, none⟩ ::
         ⟨some 78, .mv (.t 77), [], [], none, (some ([0, 9, 10, 11, 12, 13, 78], (some [11])))⟩ ::
         g_law08_TreeJoins.o6))
     (g_law08_TreeJoins.c3))
    (.skip)))
  (g_law08_TreeJoins.c17)
def g_law08_TreeJoins.c19 : ACode :=
  .seq (.seq (.region [0, 5, 8, 9, 10, 11, 12, 13, 67] (some [5, 8, 11]) none
      [⟨some 60, .faddr 0 (.t 5), [], [], none, none⟩,
       ⟨some 61, .load none (.t 60), [], [], none, none⟩,
       ⟨some 62, .len (.t 61), [], [], none, none⟩,
       ⟨some 63, .faddr 0 (.t 8), [], [], none, none⟩,
       ⟨some 64, .load none (.t 63), [], [], none, none⟩,
       ⟨some 65, .len (.t 64), [], [], none, none⟩,
       ⟨some 66, .bin .add (.t 62) (.t 65), [], [], none, none⟩,
       ⟨some 67, .bin .gtr (.t 66) (.c (.d (.int .i64 60))), [], [], none, none⟩])
   (.cond (.t 67) (.seq (.region [4] (some []) none
        (⟨some 68, .mv (.t 13), [], [], none, none⟩ ::
         ⟨some 69, .bin .eql (.t 68) (.c (.d (.int .i64 9))), [], [], none, none⟩ ::
         ⟨some 70, .mv (.t 69), [], [], none, (some ([70], (some [])))⟩ ::
         g_law08_TreeJoins.o4))
     (g_law08_TreeJoins.c2))
    (.skip)))
  (g_law08_TreeJoins.c18)
def g_law08_TreeJoins.c20 : ACode :=
  .seq (.seq (.region [0, 5, 8, 9, 10, 11, 12, 13, 52] (some [5, 8, 11]) none
      [⟨some 51, .mv (.t 7), [], [], none, none⟩,
       ⟨some 52, .bin .neq (.t 51) (.c (.d (.int .i64 0))), [], [], none, none⟩])
   (.cond (.t 52) (.seq (.region [4] (some []) none
        (⟨some 53, .faddr 0 (.t 5), [], [], none, none⟩ ::
         ⟨some 54, .load none (.t 53), [], [], none, none⟩ ::
         ⟨some 55, .len (.t 54), [], [], none, none⟩ ::
         ⟨some 56, .bin .eql (.t 55) (.c (.d (.int .i64 0))), [], [], none, none⟩ ::
         ⟨some 57, .mv (.t 56), [], [], none, (some ([57], (some [])))⟩ ::
         g_law08_TreeJoins.o2))
     (g_law08_TreeJoins.c1))
    (.skip)))
  (g_law08_TreeJoins.c19)
def g_law08_TreeJoins.c21 : ACode :=
  .seq (.region [0, 5, 7, 8, 9, 10, 11, 12, 13] (some [5, 8, 11]) none
     [⟨some 43, .mv (.t 0), [], [], none, none⟩,
      ⟨some 44, .bin .add (.t 43) (.c (.d (.str [10]))), [], [], none, none⟩,
      ⟨some 45, .mv (.t 1), [], [], none, none⟩,
      ⟨some 46, .bin .add (.t 44) (.t 45), [], [], none, none⟩,
      ⟨some 47, .call 144 [(.t 46)], [], [], none, none⟩,
      ⟨some 42, .mv (.t 47), [], [], none, none⟩,
      ⟨some 48, .ext (.t 42) 0, [], [], none, none⟩,
      ⟨some 49, .ext (.t 42) 1, [], [], none, none⟩,
      ⟨some 50, .ext (.t 42) 2, [], [], none, none⟩,
      ⟨some 11, .alloc 11 [.cap0, .cap0], [], [], none, none⟩,
      ⟨none, .store 2 (.t 11) (.t 48), [], [], none, none⟩,
      ⟨some 12, .mv (.t 49), [], [], none, none⟩,
      ⟨some 13, .mv (.t 50), [], [], none, none⟩])
  (g_law08_TreeJoins.c20)
def g_law08_TreeJoins.c22 : ACode :=
  .seq (.region [0, 1, 5, 7, 8, 9, 10] (some [5, 8]) none
     [⟨some 37, .mv (.t 1), [], [], none, none⟩,
      ⟨some 38, .call 144 [(.t 37)], [], [], none, none⟩,
      ⟨some 36, .mv (.t 38), [], [], none, none⟩,
      ⟨some 39, .ext (.t 36) 0, [], [], none, none⟩,
      ⟨some 40, .ext (.t 36) 1, [], [], none, none⟩,
      ⟨some 41, .ext (.t 36) 2, [], [], none, none⟩,
      ⟨some 8, .alloc 8 [.cap0, .cap0], [], [], none, none⟩,
      ⟨none, .store 2 (.t 8) (.t 39), [], [], none, none⟩,
      ⟨some 9, .mv (.t 40), [], [], none, none⟩,
      ⟨some 10, .mv (.t 41), [], [], none, none⟩])
  (g_law08_TreeJoins.c21)
def g_law08_TreeJoins.c23 : ACode :=
  .seq (.region [0, 1, 5, 7] (some [5]) none
     [⟨some 31, .mv (.t 0), [], [], none, none⟩,
      ⟨some 32, .call 144 [(.t 31)], [], [], none, none⟩,
      ⟨some 30, .mv (.t 32), [], [], none, none⟩,
      ⟨some 33, .ext (.t 30) 0, [], [], none, none⟩,
      ⟨some 34, .ext (.t 30) 1, [], [], none, none⟩,
      ⟨some 35, .ext (.t 30) 2, [], [], none, none⟩,
      ⟨some 5, .alloc 5 [.cap0, .cap0], [], [], none, none⟩,
      ⟨none, .store 2 (.t 5) (.t 33), [], [], none, none⟩,
      ⟨some 6, .mv (.t 34), [], [], none, none⟩,
      ⟨some 7, .mv (.t 35), [], [], none, none⟩])
  (g_law08_TreeJoins.c22)
def g_law08_TreeJoins.code : ACode :=
  .seq (.region [0, 1] (some []) none
     [⟨some 4, .mv (.c (.d (.bool false))), [], [], none, none⟩])
  (.seq (.seq (.region [0, 1, 28] (some []) none
       (⟨some 21, .mv (.t 0), [], [], none, none⟩ ::
        ⟨some 22, .lenS (.t 21), [], [], none, none⟩ ::
        ⟨some 23, .bin .gtr (.t 22) (.c (.d (.int .i64 300))), [], [], none, none⟩ ::
        ⟨some 24, .mv (.t 23), [], [], none, (some ([0, 1, 24], (some [])))⟩ ::
        g_law08_TreeJoins.o0))
    (g_law08_TreeJoins.c0))
   (g_law08_TreeJoins.c23))
def g_law08_TreeJoins : AFn := { N := 206, res := [.slot 4], own := [], frz := [], code := g_law08_TreeJoins.code }

end Pay
